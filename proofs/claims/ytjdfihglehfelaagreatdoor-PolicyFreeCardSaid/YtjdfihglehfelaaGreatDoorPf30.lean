/- Lemmas: RanE, RanF. -/
import Derived.Test.YtjdfihglehfelaaGreatDoorPf29
import Derived.Shelf.SlicesQ.Equal
set_option maxRecDepth 100000
set_option maxHeartbeats 32000000
set_option linter.all false
namespace Go.Proofs.YtjdfihglehfelaaGreatDoor
open Go.Proofs.Tryz
open Go.RowKit Go.Sort
def eU (l:List (Int × Int)):List Int:=l.flatMap fun p=>[p.1,p.1+p.2]
theorem xw (l:List (Int × Int))(k:Nat)(x:Int × Int)(h:l[k]?=some x):eU (l.take (k+1))=eU (l.take k)++[x.1,x.1+x.2]:=by
 rw [take_snoc' l k x h];simp [eU]
theorem kE (l:List (Int × Int)):(eU l).length=2*l.length:=by
 induction l with
 | nil=>rfl
 | cons p l ih=>simp [eU] at *;omega
def dV (ls:List (List (Int × Int))):List Int:=ls.flatMap eU
theorem xJ (ls:List (List (Int × Int)))(k:Nat)(l:List (Int × Int))(h:ls[k]?=some l):dV (ls.take (k+1))=dV (ls.take k)++eU l:=by
 rw [take_snoc' ls k l h];simp [dV]
theorem qE (N:Nat)(ls:List (List (Int × Int)))(h:∀ l∈ls,l.length<=N):(dV ls).length<=2*N*ls.length:=by
 induction ls with
 | nil=>simp [dV]
 | cons l ls ih =>
  have h1:=ih (fun l hl=>h l (by simp [hl]));have h2:=h l (by simp);have h3:=kE l;simp only [dV,lB,cD,cS] at *;rw [Nat.mul_add,fp];omega
def Cq (P:List Int)(Z:List Int):Prop:=P.Pairwise (·<·)/\∀ n,n∈P↔n∈Z
theorem Bp (B:Nat)(l:List Int)(v:Value)(w:World)(ho:eG w B v l)(hlen:l.length<=100000000) :
  Calls prog 214 #[v] w fun e w'=>e=.returned (.tuple #[])/\eG w' B v (l.mergeSort fun x y=>decide (x<=y))/\Below B w w':=by
 by_cases h0:0<l.length
 ·obtain ⟨g,cap,rfl,hB,hg,hc,_,hH⟩:=ho.holds h0
  have hcon:=Any.slices_Sort_int Tryz.lays189 g 0 cap l w hH hg (by omega);change Calls prog 214 _ _ _ at hcon;refine hcon.mono ?_;rintro e w' ⟨rfl,n,os,rfl⟩;have:=eG.sorted (n:=n) (os:=os) (s:=l.mergeSort fun x y=>decide (x<=y)) ho (DO l);exact ⟨rfl,this.1,this.2⟩
 ·have hl:l=[]:=fX (by omega)
  subst hl;obtain ⟨p,cap,rfl,_⟩:=ho.rd;refine (Any.slices_Sort_int_none Tryz.lays189 p cap w).mono ?_;rintro e w' ⟨rfl,rfl⟩;exact ⟨rfl,by simpa using ho,bj _ _⟩
theorem vJ (B:Nat)(l:List Int)(v:Value)(w:World)(ho:eG w B v l)(hlen:l.length<=100000000) :
  Calls prog 215 #[v] w fun e w'=>∃ v',e=.returned v'/\eG w' B v' (Lib.compact l)/\Below B w w':=by
 by_cases h0:0<l.length
 ·obtain ⟨g,cap,rfl,hB,hg,hc,hcm,hH⟩:=ho.holds h0
  have hcon:=Any.slices_Compact_int Tryz.laysNm220 g 0 cap l w hH (by omega) hc;change Calls prog 215 _ _ _ at hcon;refine hcon.mono ?_;rintro e w' ⟨rfl,q,rfl⟩
  have hle:(Lib.compact l).length<=l.length:=by
   have:∀ m,(Lib.compactUpTo l.toArray m).length<=m:=fun m=>by
    induction m with
    | zero=>simp [Lib.compactUpTo]
    | succ m ih=>rw [Lib.compactUpTo_succ];split <;> simp <;> omega
   exact this l.length
  have h1:=Lib.ownsRow_putRow (enc:=Value.int .i64) (q:=q) (k:=(Lib.compact l).length) (ys:=Lib.compact l++List.replicate (l.length - (Lib.compact l).length) 0) ho (by simp;omega) hle;rw [List.take_left] at h1;exact ⟨_,rfl,h1,Lib.below_putRow (bj _ _) hB⟩
 ·have hl:l=[]:=fX (by omega)
  subst hl;obtain ⟨p,cap,rfl,_⟩:=ho.rd;refine (Any.slices_Compact_int_empty Tryz.laysNm220 p cap w).mono ?_;rintro e w' ⟨rfl,rfl⟩;exact ⟨_,rfl,ho,bj _ _⟩
def Fg (w:World)(Z:List Int)(e:Ending)(w':World):Prop:=∃ v P,e=.returned v/\eG w' w.heap.size v P/\Cq P Z/\P.length<=Z.length/\Below w.heap.size w w'
theorem Az (Z:List Int):Cq (Lib.compact (Z.mergeSort fun x y=>decide (x<=y))) Z/\(Lib.compact (Z.mergeSort fun x y=>decide (x<=y))).length<=Z.length:=by
 have hs:(Z.mergeSort fun x y=>decide (x<=y)).Pairwise (·<=·):=by
  have:=List.pairwise_mergeSort (le:=fun x y:Int=>decide (x<=y)) (fun a b c h1 h2=>by simp at *;omega) (fun a b=>by simp;omega) Z;exact this.imp (fun h=>by simpa using h)
 obtain ⟨h1,h2⟩:=qi _ hs;refine ⟨⟨h1,fun n=>(h2 n).trans ?_⟩,?_⟩
 ·exact (List.mergeSort_perm Z _).mem_iff
 ·have:∀ (d:Array Int) m,(Lib.compactUpTo d m).length<=m:=fun d m=>by
   induction m with
   | zero=>simp [Lib.compactUpTo]
   | succ m ih=>rw [Lib.compactUpTo_succ];split <;> simp <;> omega
  have:=this (Z.mergeSort fun x y=>decide (x<=y)).toArray (Z.mergeSort fun x y=>decide (x<=y)).length;rw [DO] at this;unfold Lib.compact;rw [DO];exact this
theorem Co (ls:List (List (Int × Int)))(v:Value)(w:World)(hr:Ey w v ls)(hval:ls.all dI=true)(U6:ls.length<=2)(hlen:∀ l∈ls,l.length<=10000000) :
  Calls prog 201 #[v] w (Fg w (dV ls)):=by
 have HV:=aa hval;have Ky:=aa hlen;clear hval hlen;obtain ⟨g,cap,rfl,hlc,ij,hg,hc⟩:=hr;go_enter func201,ntmps201;go_wp2
 go_loopw [3,10] (fun vo i wr=>∃ k:Nat,k<=ls.length/\i=.int .i64 k/\eG wr w.heap.size vo (dV (ls.take k))/\Below w.heap.size w wr) (fun _ i _=>ls.length - (intOf i).toNat)
 case atStart=>exact ⟨0,cg _,rfl,eG.nil _ _,bj _ _⟩
 case round =>
  obtain ⟨k,hk,rfl,hown,hb⟩:=hrel
  by_cases hlt:k<ls.length
  ·obtain ⟨l,hl⟩:=aj ls k hlt
   obtain ⟨u,hu,Um⟩:=hc k l hl;have hcell:wr.cell? ⟨g,k,none⟩=some u:=(hb.cell (p:=⟨g,k,none⟩) hg).trans hu;obtain ⟨p,cap2,rfl,hlc2,Km,hp2⟩:=Um;have N9:l.length<=10000000:=Ky.o l (ct hl)
   have JV:(dV (ls.take k)).length<=40000000:=by
    have:=qE 10000000 (ls.take k) (fun l hl=>Ky.o l (tR hl));have h2:(ls.take k).length<=2:=by simp;omega
    omega
   have mb:dI l=true:=List.all_eq_true.1 HV.o l (ct hl);have Oc:=aa mb;have HL:=aa hl;obtain ⟨Z,hZ⟩:∃ Z,Z=dV (ls.take k):=⟨_,rfl⟩;rw [<- hZ] at hown JV;have HZ:=aa hZ;clear hc hu hl mb hZ;go_wp2;obtain ⟨wo,rfl⟩:∃ wo:World,wo=wr:=⟨_,rfl⟩
   go_loopw [3,16] (fun vo i wr=>∃ j:Nat,j<=l.length/\i=.int .i64 j/\eG wr w.heap.size vo (Z++eU (l.take j))/\Below w.heap.size w wr) (fun _ i _=>l.length - (intOf i).toNat)
   case atStart=>exact ⟨0,cg _,rfl,by simpa [eU] using hown,hb⟩
   case round =>
    obtain ⟨j,hj,rfl,hown2,hb2⟩:=hrel
    by_cases hlt2:j<l.length
    ·obtain ⟨b,off,rfl,gO,hc⟩:=hp2 (by omega)
     obtain ⟨x,hx⟩:=aj l j hlt2;have hcc:=(hc.below hb2 gO) j x hx;have hc1:=hcc.1;have hc2:=hcc.2;obtain ⟨hx0,hx1,hx2⟩:=iF Oc.o x (ct hx)
     have Ww:(Z++eU (l.take j)).length<=80000000:=by
      rw [cD,kE];have:(l.take j).length<=10000000:=by simp;omega
      omega
     have HX:=aa hx;clear hc hp2 hcc hx
     go_wp2_with (at_builtin;refine ve rfl _ _ rfl w.heap.size _ (Z++eU (l.take j)) x.1 (x.1+x.2) rfl ?c1 (wr.heap.size+1) 2 rfl ?c2 ?c3 (by omega) ?c4 ?_)
     case c1=>refine hown2.below ?_;(repeat' (first | exact bj _ _ | exact bk _ | (refine dT ?_ ?_ _) | (refine aT ?_ _) | (refine ee ?_) | (simp;done) | (simp;omega)))
     try (case c2=>exact aD (by simp) rfl)
     try (case c3=>exact aD (by simp) rfl)
     case c4=>have:=hb2.size;simp;omega
     intro v4 w4 ho4 hb4;have hb5:Below w.heap.size w w4:=(hb2.trans (by refine kt (B:=wr.heap.size) ?_ hb2.size;(repeat' (first | exact bj _ _ | exact bk _ | (refine dT ?_ ?_ _) | (refine aT ?_ _) | (refine ee ?_) | (simp;done) | (simp;omega))))).trans hb4;clear hb4 hown2 hb2;go_wp2;go_roundw
     case rel=>exact ⟨j+1,by omega,by go_num,by rw [xw l j x HX.o];simpa using ho4,hb5⟩
     case measure=>simp [intOf];omega
    ·go_wp2
     go_roundw
     case rel=>exact ⟨k+1,by omega,by go_num,by rw [xJ ls k l HL.o,<- HZ.o];rw [jz (show l.length<=j by omega)] at hown2;exact hown2,hb2⟩
     case measure=>simp [intOf];omega
  ·have JU:k=ls.length:=by omega
   subst JU;rw [cI] at hown
   have JV:(dV ls).length<=40000000:=by
    have:=qE 10000000 ls Ky.o;omega
   have YL:=Az (dV ls);have Qo:=aa YL;generalize dV ls=Z at *;clear YL
   go_wp2_with fail
   refine (Bp w.heap.size _ _ wr hown (by omega)).mono ?_;rintro e w1 ⟨rfl,ho1,hb1⟩
   go_wp2_with fail
   refine (vJ w.heap.size _ _ w1 ho1 (by rw [DO];omega)).mono ?_;rintro e w2 ⟨v2,rfl,ho2,hb2⟩;go_wp2;go_ret;exact ⟨v2,_,rfl,ho2,Qo.o.1,Qo.o.2,(hb.trans hb1).trans hb2⟩
theorem jC {x l:List (Int × Int)}(hx:iE x (Mem l))(hv:dI l=true):dI x=true:=by
 unfold dI;rw [eL];intro p hp;have:=El hx hv p hp;unfold nT;simp;omega
theorem Ay (P:List Int)(f:Int->Bool)(hs:P.Pairwise (·<·))(hb:∀ t∈P,0<=t/\t<=1073741824):dI (Gf P f)=true:=by
 unfold dI;rw [eL];intro r hr;have h1:=uq f P hs r hr;have h2:=hb _ h1.1;have h3:=hb _ h1.2.1;unfold nT;simp;omega
theorem BR (a b:List (Int × Int))(ha:dI a=true)(hb:dI b=true):∀ t∈dV [a,b],0<=t/\t<=1073741824:=by
 intro t ht;simp only [dV,lB,List.flatMap_nil,eM,oT] at ht
 have key:∀ l:List (Int × Int),dI l=true->t∈eU l->0<=t/\t<=1073741824:=fun l hl h=>by
  unfold eU at h;rw [ur] at h;obtain ⟨p,hp,h⟩:=h;have:=iF hl p hp;simp at h;rcases h with rfl | rfl <;> omega
 rcases ht with h | h
 ·exact key a ha h
 ·exact key b hb h
theorem zD (a b:List (Int × Int)):∀ r,r∈a\/r∈b->r.1∈dV [a,b]/\r.1+r.2∈dV [a,b]:=by
 intro r hr;simp only [dV,lB,List.flatMap_nil,eM,oT]
 have key:∀ l:List (Int × Int),r∈l->r.1∈eU l/\r.1+r.2∈eU l:=fun l hl=>by
  unfold eU;rw [ur,ur];exact ⟨⟨r,hl,by simp⟩,⟨r,hl,by simp⟩⟩
 rcases hr with h | h
 ·exact ⟨.inl (key a h).1,.inl (key a h).2⟩
 ·exact ⟨.inr (key b h).1,.inr (key b h).2⟩
def Past (a:List (Int × Int))(i:Nat)(n:Int):Prop:=∀ p∈a.take i,p.1+p.2<=n
theorem tL (a:List (Int × Int))(n:Int):Past a 0 n:=by intro p hp;simp at hp
theorem tO {a:List (Int × Int)}{i:Nat}{n:Int}{x:Int × Int}(h:Past a i n)(hx:a[i]?=some x)(hn:x.1+x.2<=n):Past a (i+1) n:=by
 unfold Past;rw [take_snoc' a i x hx];intro p hp;rcases List.mem_append.1 hp with hp | hp
 ·exact h p hp
 ·simp at hp;subst hp;exact hn
theorem zO {a:List (Int × Int)}{i:Nat}{n m:Int}(h:Past a i n)(hm:n<=m):Past a i m:=fun p hp=>by have:=h p hp;omega
theorem zU {a:List (Int × Int)}(ha:NF a){i:Nat}{n:Int}(h:Past a i n)(x:Int × Int)(hx:a[i]?=some x)(h2:n<x.1+x.2):kO a n=decide (x.1<=n):=by
 rw [mN,EK ha i n h (fun y hy=>by rw [hx] at hy;cases hy;exact h2)]
 constructor
 ·rintro ⟨y,hy,h⟩;rw [hx] at hy;cases hy;simpa using h
 ·intro h;exact ⟨x,hx,by simpa using h⟩
theorem wV {a:List (Int × Int)}(ha:NF a){i:Nat}{n:Int}(h:Past a i n)(hi:a.length<=i):kO a n=false:=by
 have hn:a[i]?=none:=xj hi;rw [Bool.eq_false_iff];intro hc;rw [EK ha i n h (fun y hy=>by rw [hn] at hy;cases hy)] at hc
 obtain ⟨y,hy,_⟩:=hc;rw [hn] at hy;cases hy
theorem Ch (P:List Int)(f:Int->Bool):Gf (P.take (0+1)) f=[]:=by
 cases P with
 | nil=>rfl
 | cons a t=>simp [Gf]
def vD (w:World)(S:Int->Prop)(N:Nat)(e:Ending)(w':World):Prop :=
 ∃ v x,e=.returned (.tuple #[v,.int .i64 0])/\bM w' w.heap.size v x/\iE x S/\dI x=true/\x.length<=N/\Below w.heap.size w w'
theorem zG (c:Bool->Bool->Bool)(h00:c false false=false)(gf:Nat)(eg:∀ args w,(callFunc gf args).run prog w=.ok (.enter gf args) w)
  (YM:∀ b1 b2 w,Calls prog gf #[.bool b1,.bool b2] w fun e w'=>e=.returned (.bool (c b1 b2))/\w'=w)
  (a b:List (Int × Int)) (v1 v2:Value) (w:World) (hr1:xo w v1 a) (hr2:xo w v2 b) (hv1:dI a=true) (hv2:dI b=true) (hl1:a.length<=1000000) (hl2:b.length<=1000000) :
  Calls prog 164 #[v1,v2,.func (.func gf) #[] #[]] w (vD w (fun n=>c (kO a n) (kO b n)=true) (2*(a.length+b.length))):=by
 have J4:=aa hv1;have Je:=aa hv2;have HC:=aa YM;have H00:=aa h00;clear hv1 hv2 YM h00;have RZ:=hr1;have sB:=hr2;obtain ⟨pa,ca,rfl,_⟩:=RZ;obtain ⟨pb,cb,rfl,_⟩:=sB;go_enter func164,ntmps164
 go_wp2_with fail
 refine (qK [a,b] _ _ (xK w _ _ a b _ hr1 hr2)).mono ?_;rintro e w1 ⟨rfl,hb1⟩;have hb01:Below w.heap.size w w1:=mn ((bj _ _).alloc (bk _) _) hb1;have hv:[a,b].all dI=true:=by simp [J4.o,Je.o]
 go_wp2_with fail
 refine (jJ a _ w1 (hr1.below hb01) J4.o (by omega)).mono ?_;rintro e w2 ⟨va,xa,rfl,Od,R1,ab6,hb2⟩;have hb02:=mn hb01 hb2
 go_wp2_with fail
 refine (jJ b _ w2 (hr2.below hb02) Je.o (by omega)).mono ?_;rintro e w3 ⟨vb,xb,rfl,gR,qu,ab7,hb3⟩;have hb03:=mn hb02 hb3;have PA:=Od.rd.below hb3;have PB:=gR.rd;clear hr1 hr2 Od gR hb1 hb2 hb3 hb01 hb02 hv;have JJ:=jC R1 J4.o;have IV:=jC qu Je.o;have Hn:=aa R1;have Qp:=aa qu;have Nc:=aa JJ;have Wx:=aa IV;clear R1 qu JJ IV;have RZ:=PA;have sB:=PB;obtain ⟨qa,ca',rfl,V8,YN,Qq⟩:=RZ;obtain ⟨qb,cb',rfl,Li,YO,Kr⟩:=sB
 go_wp2_with fail
 refine (Co [xa,xb] _ _ (xK w3 _ _ xa xb _ PA PB) (by simp [Nc.o,Wx.o]) (by simp) (by simp;omega)).mono ?_;rintro e w4 ⟨vp,P,rfl,hop,hP,Pe,hb4⟩;have hb34:Below w3.heap.size w3 w4:=mn ((bj _ _).alloc (bk _) _) hb4
 have Ps:P.length<=2*(a.length+b.length):=by
  have h1:=kE xa;have h2:=kE xb;have h3:(dV [xa,xb]).length=(eU xa).length+(eU xb).length:=by simp [dV]
  omega
 have YP:∀ t∈P,0<=t/\t<=1073741824:=fun t ht=>BR xa xb Nc.o Wx.o t ((hP.2 t).1 ht);have HP:=aa hP;have Kp:=aa YP;clear hP Pe YP PA PB;obtain ⟨qp,cp,rfl,Ui,Sa,Un⟩:=hop.rd;clear hop hb4;obtain ⟨f,hf⟩:∃ f:Int->Bool,f=fun t=>c (kO xa t) (kO xb t):=⟨_,rfl⟩;have HF:=aa hf;clear hf;go_wp2
 go_loopw [9,10,11,12] (fun vo vi vk vn wr=>∃ m i k:Nat,m<=P.length/\i<=xa.length/\k<=xb.length/\vn=.int .i64 m/\vi=.int .i64 i/\vk=.int .i64 k /\
   (∀ t,P[m]?=some t->Past xa i t/\Past xb k t)/\bM wr w4.heap.size vo (Gf (P.take (m+1)) f)/\Below w4.heap.size w4 wr) (fun _ _ _ vn _=>P.length - (intOf vn).toNat)
 case atStart=>exact ⟨0,0,0,cg _,cg _,cg _,rfl,rfl,rfl,fun t _=>⟨tL _ _,tL _ _⟩,by rw [Ch];exact bM.nil _ _,bj _ _⟩
 case round =>
  obtain ⟨m,i,k,hm,hi,hk,rfl,rfl,rfl,oy,hown,hb⟩:=hrel;have Sc:=aa oy;clear oy;obtain ⟨o,ho⟩:∃ o,o=Gf (P.take (m+1)) f:=⟨_,rfl⟩;rw [<- ho] at hown;have JV:o.length<=2*(a.length+b.length):=by rw [ho];have:=wJ f (P.take (m+1));simp at this;omega
  have HO:=aa ho;clear ho
  by_cases hlt:m+1<P.length
  ·obtain ⟨bp,PC,rfl,KR,Mq⟩:=Un (by omega)
   obtain ⟨t,ht⟩:=aj P m (by omega);obtain ⟨t2,ht2⟩:=aj P (m+1) hlt;have Wy:=(Mq.below hb KR) m t ht;obtain ⟨Sd,Sg⟩:=Sc.o t ht;have Oe:=aa Sd;have Sh:=aa Sg;obtain ⟨ht0,ht1⟩:=Kp.o t (ct ht);obtain ⟨ht20,ht21⟩:=Kp.o t2 (ct ht2)
   have Nh:t<t2:=by
    obtain ⟨h1,e1⟩:=List.getElem?_eq_some_iff.1 ht;obtain ⟨h2,e2⟩:=List.getElem?_eq_some_iff.1 ht2;have:=List.pairwise_iff_getElem.1 HP.o.1 m (m+1) h1 h2 (by omega);omega
   have HT:=aa ht;have KL:=aa ht2;clear ht ht2 Sd Sg;have hd31:decide ((m:Int)+1<(P.length:Int))=true:=by simp;omega
   go_upto_block 2 with fail
   obtain ⟨wo,rfl⟩:∃ wo:World,wo=wr:=⟨_,rfl⟩;clear Wy
   go_cut [10] (fun vi wc=>∃ i:Nat,i<=xa.length/\vi=.int .i64 i/\Past xa i t/\(∀ x,xa[i]?=some x->t<x.1+x.2)/\Below wo.heap.size wo wc)
   case first =>
    go_wp2_with fail
    go_loopw [10] (fun vi wr=>∃ i:Nat,i<=xa.length/\vi=.int .i64 i/\Past xa i t/\Below wo.heap.size wo wr) (fun vi _=>xa.length - (intOf vi).toNat)
    case atStart=>exact ⟨i,hi,rfl,Oe.o,bj _ _⟩
    case round =>
     obtain ⟨i',hi',rfl,oy,hb5⟩:=hrel;have J9:=aa oy;clear oy;have KP:=mn hb hb5
     by_cases Nt:i'<xa.length
     ·obtain ⟨ba,Si,rfl,LV,mB⟩:=Qq (by omega)
      obtain ⟨x,hx⟩:=aj xa i' Nt;have hcc:=(mB.below (mn hb34 KP) LV) i' x hx;have hc1:=hcc.1;have hc2:=hcc.2;obtain ⟨hx0,hx1,hx2⟩:=iF Nc.o x (ct hx);have HX:=aa hx;clear mB Qq hcc hx
      by_cases hend:x.1+x.2<=t
      ·go_wp2
       go_quiet (fail);go_wp2;go_roundw
       case rel=>exact ⟨i'+1,by omega,by go_num,tO J9.o HX.o hend,aT hb5 _⟩
       case measure=>simp [intOf];omega
      ·have hend':decide (x.1+x.2<=t)=false:=by simp;omega
       go_wp2;go_quiet (fail);go_wp2;go_meet;exact ⟨i',hi',rfl,J9.o,fun y hy=>by rw [HX.o] at hy;cases hy;omega,aT hb5 _⟩
     ·have ab8:decide (i'<xa.length)=false:=by simp;omega
      go_wp2;go_quiet (fail);go_wp2;go_meet;exact ⟨i',hi',rfl,J9.o,fun y hy=>absurd (List.getElem?_eq_some_iff.1 hy).1 (by omega),aT hb5 _⟩
   case rest =>
    clear Oe;obtain ⟨i',hi',rfl,oy,hout,hb5⟩:=hcut;have J9:=aa oy;have Wz:=aa hout;clear oy hout;have KP:=mn hb hb5
    go_upto_block 4 with fail
    obtain ⟨Qr,rfl⟩:∃ Qr:World,Qr=wc:=⟨_,rfl⟩
    go_cut [11] (fun vk wc=>∃ k:Nat,k<=xb.length/\vk=.int .i64 k/\Past xb k t/\(∀ x,xb[k]?=some x->t<x.1+x.2)/\Below Qr.heap.size Qr wc)
    case first =>
     go_wp2_with fail
     go_loopw [11] (fun vk wr=>∃ k:Nat,k<=xb.length/\vk=.int .i64 k/\Past xb k t/\Below Qr.heap.size Qr wr) (fun vk _=>xb.length - (intOf vk).toNat)
     case atStart=>exact ⟨k,hk,rfl,Sh.o,bj _ _⟩
     case round =>
      obtain ⟨k',hk',rfl,oy,hb6⟩:=hrel;have Ka:=aa oy;clear oy;have C5:=mn KP hb6
      by_cases hkb:k'<xb.length
      ·obtain ⟨bb,KS,rfl,B9,hcb⟩:=Kr (by omega)
       obtain ⟨x,hx⟩:=aj xb k' hkb;have hcc:=(hcb.below (mn hb34 C5) B9) k' x hx;have hc1:=hcc.1;have hc2:=hcc.2;obtain ⟨hx0,hx1,hx2⟩:=iF Wx.o x (ct hx);have HX:=aa hx;clear hcb Kr hcc hx
       by_cases hend:x.1+x.2<=t
       ·go_wp2
        go_quiet (fail);go_wp2;go_roundw
        case rel=>exact ⟨k'+1,by omega,by go_num,tO Ka.o HX.o hend,aT hb6 _⟩
        case measure=>simp [intOf];omega
       ·have hend':decide (x.1+x.2<=t)=false:=by simp;omega
        go_wp2;go_quiet (fail);go_wp2;go_meet;exact ⟨k',hk',rfl,Ka.o,fun y hy=>by rw [HX.o] at hy;cases hy;omega,aT hb6 _⟩
      ·have hkb':decide (k'<xb.length)=false:=by simp;omega
       go_wp2;go_quiet (fail);go_wp2;go_meet;exact ⟨k',hk',rfl,Ka.o,fun y hy=>absurd (List.getElem?_eq_some_iff.1 hy).1 (by omega),aT hb6 _⟩
    case rest =>
     clear Sh;obtain ⟨k',hk',rfl,oy,hout,hb6⟩:=hcut;have Ka:=aa oy;have Sj:=aa hout;clear oy hout;have C5:=mn KP hb6
     have hA:(xa.length<=i'/\kO xa t=false)\/(∃ x,i'<xa.length/\xa[i']?=some x/\x.1<=t/\kO xa t=true)\/(∃ x,i'<xa.length/\xa[i']?=some x/\t<x.1/\kO xa t=false):=by
      by_cases Nt:i'<xa.length
      ·obtain ⟨x,hx⟩:=aj xa i' Nt
       have:=zU Hn.o.1 J9.o x hx (Wz.o x hx)
       by_cases Nu:x.1<=t
       ·exact .inr (.inl ⟨x,Nt,hx,Nu,by rw [this];simpa using Nu⟩)
       ·exact .inr (.inr ⟨x,Nt,hx,by omega,by rw [this];simpa using Nu⟩)
      ·exact .inl ⟨by omega,wV Hn.o.1 J9.o (by omega)⟩
     have hB:(xb.length<=k'/\kO xb t=false)\/(∃ x,k'<xb.length/\xb[k']?=some x/\x.1<=t/\kO xb t=true)\/(∃ x,k'<xb.length/\xb[k']?=some x/\t<x.1/\kO xb t=false):=by
      by_cases Nt:k'<xb.length
      ·obtain ⟨x,hx⟩:=aj xb k' Nt
       have:=zU Qp.o.1 Ka.o x hx (Sj.o x hx)
       by_cases Nu:x.1<=t
       ·exact .inr (.inl ⟨x,Nt,hx,Nu,by rw [this];simpa using Nu⟩)
       ·exact .inr (.inr ⟨x,Nt,hx,by omega,by rw [this];simpa using Nu⟩)
      ·exact .inl ⟨by omega,wV Qp.o.1 Ka.o (by omega)⟩
     go_upto_region 15 with fail
     obtain ⟨Uo,rfl⟩:∃ Uo:World,Uo=wc:=⟨_,rfl⟩
     go_cut [107] (fun v wc=>v=.bool (f t)/\Below Uo.heap.size Uo wc)
     case first =>
      rcases hA with ⟨hA1,hA2⟩ | ⟨x,hA1,hx,Nu,hA2⟩ | ⟨x,hA1,hx,Nu,hA2⟩
      ·have hA3:decide (i'<xa.length)=false:=by simp;omega
       have J7:=aa hA2;clear hA2;rcases hB with ⟨hB1,hB2⟩ | ⟨y,hB1,hy,Sk,hB2⟩ | ⟨y,hB1,hy,Sk,hB2⟩
       ·have hB3:decide (k'<xb.length)=false:=by simp;omega
        have cm:=aa hB2;clear hB2;go_wp2;go_quiet ((refine po (HC.o _ _ _)));go_wp2;go_meet;exact ⟨by rw [HF.o];simp only [];rw [J7.o,cm.o],aT (bj _ _) _⟩
       ·obtain ⟨bb,KS,rfl,B9,hcb⟩:=Kr (by omega)
        have hcc:=(hcb.below (mn hb34 C5) B9) k' y hy;have hcb1:=hcc.1;have cm:=aa hB2;clear hB2 hcb Kr hcc hy;go_wp2;go_quiet ((refine po (HC.o _ _ _)));go_wp2;go_meet;exact ⟨by rw [HF.o];simp only [];rw [J7.o,cm.o],aT (bj _ _) _⟩
       ·obtain ⟨bb,KS,rfl,B9,hcb⟩:=Kr (by omega)
        have hcc:=(hcb.below (mn hb34 C5) B9) k' y hy;have hcb1:=hcc.1;have cm:=aa hB2;clear hB2 hcb Kr hcc hy;have hB3:decide (y.1<=t)=false:=by simp;omega
        go_wp2;go_quiet ((refine po (HC.o _ _ _)));go_wp2;go_meet;exact ⟨by rw [HF.o];simp only [];rw [J7.o,cm.o],aT (bj _ _) _⟩
      ·obtain ⟨ba,Si,rfl,LV,mB⟩:=Qq (by omega)
       have hcc:=(mB.below (mn hb34 C5) LV) i' x hx;have WB:=hcc.1;have J7:=aa hA2;clear hA2 mB Qq hcc hx;rcases hB with ⟨hB1,hB2⟩ | ⟨y,hB1,hy,Sk,hB2⟩ | ⟨y,hB1,hy,Sk,hB2⟩
       ·have hB3:decide (k'<xb.length)=false:=by simp;omega
        have cm:=aa hB2;clear hB2;go_wp2;go_quiet ((refine po (HC.o _ _ _)));go_wp2;go_meet;exact ⟨by rw [HF.o];simp only [];rw [J7.o,cm.o],aT (bj _ _) _⟩
       ·obtain ⟨bb,KS,rfl,B9,hcb⟩:=Kr (by omega)
        have hcc:=(hcb.below (mn hb34 C5) B9) k' y hy;have hcb1:=hcc.1;have cm:=aa hB2;clear hB2 hcb Kr hcc hy;go_wp2;go_quiet ((refine po (HC.o _ _ _)));go_wp2;go_meet;exact ⟨by rw [HF.o];simp only [];rw [J7.o,cm.o],aT (bj _ _) _⟩
       ·obtain ⟨bb,KS,rfl,B9,hcb⟩:=Kr (by omega)
        have hcc:=(hcb.below (mn hb34 C5) B9) k' y hy;have hcb1:=hcc.1;have cm:=aa hB2;clear hB2 hcb Kr hcc hy;have hB3:decide (y.1<=t)=false:=by simp;omega
        go_wp2;go_quiet ((refine po (HC.o _ _ _)));go_wp2;go_meet;exact ⟨by rw [HF.o];simp only [];rw [J7.o,cm.o],aT (bj _ _) _⟩
      ·obtain ⟨ba,Si,rfl,LV,mB⟩:=Qq (by omega)
       have hcc:=(mB.below (mn hb34 C5) LV) i' x hx;have WB:=hcc.1;have J7:=aa hA2;clear hA2 mB Qq hcc hx;have hA3:decide (x.1<=t)=false:=by simp;omega
       rcases hB with ⟨hB1,hB2⟩ | ⟨y,hB1,hy,Sk,hB2⟩ | ⟨y,hB1,hy,Sk,hB2⟩
       ·have hB3:decide (k'<xb.length)=false:=by simp;omega
        have cm:=aa hB2;clear hB2;go_wp2;go_quiet ((refine po (HC.o _ _ _)));go_wp2;go_meet;exact ⟨by rw [HF.o];simp only [];rw [J7.o,cm.o],aT (bj _ _) _⟩
       ·obtain ⟨bb,KS,rfl,B9,hcb⟩:=Kr (by omega)
        have hcc:=(hcb.below (mn hb34 C5) B9) k' y hy;have hcb1:=hcc.1;have cm:=aa hB2;clear hB2 hcb Kr hcc hy;go_wp2;go_quiet ((refine po (HC.o _ _ _)));go_wp2;go_meet;exact ⟨by rw [HF.o];simp only [];rw [J7.o,cm.o],aT (bj _ _) _⟩
       ·obtain ⟨bb,KS,rfl,B9,hcb⟩:=Kr (by omega)
        have hcc:=(hcb.below (mn hb34 C5) B9) k' y hy;have hcb1:=hcc.1;have cm:=aa hB2;clear hB2 hcb Kr hcc hy;have hB3:decide (y.1<=t)=false:=by simp;omega
        go_wp2;go_quiet ((refine po (HC.o _ _ _)));go_wp2;go_meet;exact ⟨by rw [HF.o];simp only [];rw [J7.o,cm.o],aT (bj _ _) _⟩
     case rest =>
      clear hA hB;obtain ⟨rfl,hb7⟩:=hcut;have LW:=mn C5 hb7;have ab9:=(Mq.below LW KR) (m+1) t2 KL.o;clear Mq
      have Og:∀ t',P[m+1]?=some t'->Past xa i' t'/\Past xb k' t':=fun t' h=>by
       rw [KL.o] at h;cases h
       exact ⟨zO J9.o (by omega),zO Ka.o (by omega)⟩
      have Oh:=aa Og;clear Og;cases Oi:f t
      ·have yq:Gf (P.take (m+1+1)) f=o:=by rw [tu P f m t t2 HT.o KL.o,<- HO.o,Oi];simp
       have B6:=aa yq;clear yq;go_wp2;go_roundw
       case rel=>exact ⟨m+1,i',k',by omega,hi',hk',by go_num,rfl,rfl,Oh.o,by rw [B6.o];exact hown.below (mn (mn hb5 hb6) hb7),LW⟩
       case measure=>simp [intOf];omega
      ·have yq:Gf (P.take (m+1+1)) f=o++[(t,t2 - t)]:=by rw [tu P f m t t2 HT.o KL.o,<- HO.o,Oi];simp
       have B6:=aa yq;clear yq
       go_wp2_with (at_builtin;refine jg rfl _ _ rfl w4.heap.size _ o (t,t2 - t) rfl ?c1 wc.heap.size 1 rfl ?c2 ?c3 (by omega) ?c4 ?_)
       case c1=>refine (hown.below (mn (mn hb5 hb6) hb7)).below ?_;(repeat' (first | exact bj _ _ | exact bk _ | (refine dT ?_ ?_ _) | (refine aT ?_ _) | (refine ee ?_) | (simp;done) | (simp;omega)))
       try (case c2=>exact aD (by simp) rfl)
       try (case c3=>exact aD (by simp) rfl)
       case c4=>have:=LW.size;simp;omega
       intro v8 w8 ho8 hb8 _;have hb9:Below w4.heap.size w4 w8:=(LW.trans (by refine kt (B:=wc.heap.size) ?_ LW.size;(repeat' (first | exact bj _ _ | exact bk _ | (refine dT ?_ ?_ _) | (refine aT ?_ _) | (refine ee ?_) | (simp;done) | (simp;omega))))).trans hb8;clear hb8 hown;go_wp2;go_roundw
       case rel=>exact ⟨m+1,i',k',by omega,hi',hk',by go_num,rfl,rfl,Oh.o,by rw [B6.o];exact ho8,hb9⟩
       case measure=>simp [intOf];omega
  ·have hd31:decide ((m:Int)+1<(P.length:Int))=false:=by simp;omega
   have yq:Gf P f=o:=by
    have:=HO.o;rw [jz (by omega)] at this;exact this.symm
   have Rx:dI o=true:=by rw [<- yq];exact Ay P f HP.o.1 Kp.o
   have B6:=aa yq;have AG:=aa Rx;clear yq Rx
   go_wp2_with fail
   refine (jJ o _ wr hown.rd AG.o (by omega)).mono ?_;rintro e w5 ⟨v5,x5,rfl,ho5,hx5,ac0,hb5⟩;go_wp2;go_ret2;refine ⟨v5,x5,rfl,ho5.mono (mn (mn hb03 hb34) hb).size,hx5.congr (fun n=>?_),jC hx5 AG.o,by omega,mn (mn (mn hb03 hb34) hb) hb5⟩
   rw [<- B6.o,HF.o,xD xa xb c H00.o P HP.o.1 (fun r hr=>by
    have:=zD xa xb r hr
    exact ⟨(HP.o.2 _).2 this.1,(HP.o.2 _).2 this.2⟩) n]
   rw [yl (Hn.o.2 n),yl (Qp.o.2 n)]
def cM (x y:Bool):Bool:=x&&!y
theorem EY (b1 b2:Bool)(w:World):Calls prog 165 #[.bool b1,.bool b2] w fun e w'=>e=.returned (.bool (cM b1 b2))/\w'=w:=by
 cases b1 <;> cases b2 <;> (go_enter func165,ntmps165;go_wp2;go_ret;exact ⟨rfl,rfl⟩)
theorem DK (a b:List (Int × Int))(v1 v2:Value)(w:World)(hr1:xo w v1 a)(hr2:xo w v2 b)(hv1:dI a=true)(hv2:dI b=true)(hl1:a.length<=1000000)(hl2:b.length<=1000000) :
  Calls prog 108 #[v1,v2] w (vD w (fun n=>cM (kO a n) (kO b n)=true) (2*(a.length+b.length))):=by
 have hcon:=zG cM rfl 165 (enters_of func165 (by kernel_rfl) rfl) EY a b v1 v2 w hr1 hr2 hv1 hv2 hl1 hl2;have HC:=aa hcon;clear hcon hr1 hr2 hv1 hv2;go_enter func108,ntmps108
 go_wp2_with fail
 refine HC.o.mono ?_;rintro e w' ⟨v,x,rfl,h⟩;have H:=aa h;clear h;go_wp2;go_ret2;exact ⟨v,x,rfl,H.o⟩
end Go.Proofs.YtjdfihglehfelaaGreatDoor
