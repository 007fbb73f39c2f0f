/- Lemmas: RanE, RanF. -/
import Derived.Test.YtjdfihglehfelaaGreatDoorPk30
import Derived.Shelf.SlicesQ.Equal
set_option maxRecDepth 100000
set_option maxHeartbeats 32000000
set_option linter.all false
namespace Go.Proofs.YtjdfihglehfelaaGreatDoor
open Go.RowKit Go.Sort
def eU (l:List (Int × Int)):List Int:=l.flatMap fun p=>[p.1,p.1+p.2]
theorem xw (l:List (Int × Int))(k:Nat)(x:Int × Int)(h:l[k]?=some x):eU (l.take (k+1))=eU (l.take k)++[x.1,x.1+x.2]:=by
 rw [take_snoc' l k x h];simp [eU]
theorem kE (l:List (Int × Int)):(eU l).length=2*l.length:=by
 induction l with
 | nil=>rfl
 | cons p l ih=>simp [eU] at *;omega
def dV (ls:List (List (Int × Int))):List Int:=ls.flatMap eU
theorem xJ (ls:List (List (Int × Int)))(k:Nat)(l:List (Int × Int))(h:ls[k]?=some l):dV (ls.take (k+1))=dV (ls.take k)++eU l:=by
 rw [take_snoc' ls k l h];simp [dV]
theorem qE (N:Nat)(ls:List (List (Int × Int)))(h:∀ l∈ls,l.length≤N):(dV ls).length≤2*N*ls.length:=by
 induction ls with
 | nil=>simp [dV]
 | cons l ls ih =>
  have h1:=ih (fun l hl=>h l (by simp [hl]));have h2:=h l (by simp);have h3:=kE l;simp only [dV,List.flatMap_cons,List.length_append,List.length_cons] at *;rw [Nat.mul_add,Nat.mul_one];omega
def Cq (P:List Int)(Z:List Int):Prop:=P.Pairwise (·<·)∧∀ n,n∈P↔n∈Z
theorem Bp (B:Nat)(l:List Int)(v:Value)(w:World)(ho:eG w B v l)(hlen:l.length≤100000000) :
  Calls Tryz.prog 214 #[v] w fun e w'=>e=.returned (.tuple #[])∧eG w' B v (l.mergeSort fun x y=>decide (x≤y))∧Below B w w':=by
 by_cases h0:0<l.length
 ·obtain ⟨g,cap,rfl,hB,hg,hc,_,hH⟩:=ho.holds h0
  have hcon:=Any.slices_Sort_int Tryz.lays189 g 0 cap l w hH hg (by omega);change Calls Tryz.prog 214 _ _ _ at hcon;refine hcon.mono ?_;rintro e w' ⟨rfl,n,os,rfl⟩;have:=eG.sorted (n:=n) (os:=os) (s:=l.mergeSort fun x y=>decide (x≤y)) ho (List.length_mergeSort l);exact ⟨rfl,this.1,this.2⟩
 ·have hl:l=[]:=List.eq_nil_of_length_eq_zero (by omega)
  subst hl;obtain ⟨p,cap,rfl,_⟩:=ho.rd;refine (Any.slices_Sort_int_none Tryz.lays189 p cap w).mono ?_;rintro e w' ⟨rfl,rfl⟩;exact ⟨rfl,by simpa using ho,Below.refl _ _⟩
theorem vJ (B:Nat)(l:List Int)(v:Value)(w:World)(ho:eG w B v l)(hlen:l.length≤100000000) :
  Calls Tryz.prog 215 #[v] w fun e w'=>∃ v',e=.returned v'∧eG w' B v' (Lib.compact l)∧Below B w w':=by
 by_cases h0:0<l.length
 ·obtain ⟨g,cap,rfl,hB,hg,hc,hcm,hH⟩:=ho.holds h0
  have hcon:=Any.slices_Compact_int Tryz.laysNm220 g 0 cap l w hH (by omega) hc;change Calls Tryz.prog 215 _ _ _ at hcon;refine hcon.mono ?_;rintro e w' ⟨rfl,q,rfl⟩
  have hle:(Lib.compact l).length≤l.length:=by
   have:∀ m,(Lib.compactUpTo l.toArray m).length≤m:=fun m=>by
    induction m with
    | zero=>simp [Lib.compactUpTo]
    | succ m ih=>rw [Lib.compactUpTo_succ];split <;> simp <;> omega
   exact this l.length
  have h1:=Lib.ownsRow_putRow (enc:=Value.int .i64) (q:=q) (k:=(Lib.compact l).length) (ys:=Lib.compact l++List.replicate (l.length - (Lib.compact l).length) 0) ho (by simp;omega) hle;rw [List.take_left] at h1;exact ⟨_,rfl,h1,Lib.below_putRow (Below.refl _ _) hB⟩
 ·have hl:l=[]:=List.eq_nil_of_length_eq_zero (by omega)
  subst hl;obtain ⟨p,cap,rfl,_⟩:=ho.rd;refine (Any.slices_Compact_int_empty Tryz.laysNm220 p cap w).mono ?_;rintro e w' ⟨rfl,rfl⟩;exact ⟨_,rfl,ho,Below.refl _ _⟩
def Fg (w:World)(Z:List Int)(e:Ending)(w':World):Prop:=∃ v P,e=.returned v∧eG w' w.heap.size v P∧Cq P Z∧P.length≤Z.length∧Below w.heap.size w w'
theorem Az (Z:List Int):Cq (Lib.compact (Z.mergeSort fun x y=>decide (x≤y))) Z∧(Lib.compact (Z.mergeSort fun x y=>decide (x≤y))).length≤Z.length:=by
 have hs:(Z.mergeSort fun x y=>decide (x≤y)).Pairwise (·≤·):=by
  have:=List.pairwise_mergeSort (le:=fun x y:Int=>decide (x≤y)) (fun a b c h1 h2=>by simp at *;omega) (fun a b=>by simp;omega) Z;exact this.imp (fun h=>by simpa using h)
 obtain ⟨h1,h2⟩:=qi _ hs;refine ⟨⟨h1,fun n=>(h2 n).trans ?_⟩,?_⟩
 ·exact (List.mergeSort_perm Z _).mem_iff
 ·have:∀ (d:Array Int) m,(Lib.compactUpTo d m).length≤m:=fun d m=>by
   induction m with
   | zero=>simp [Lib.compactUpTo]
   | succ m ih=>rw [Lib.compactUpTo_succ];split <;> simp <;> omega
  have:=this (Z.mergeSort fun x y=>decide (x≤y)).toArray (Z.mergeSort fun x y=>decide (x≤y)).length;rw [List.length_mergeSort] at this;unfold Lib.compact;rw [List.length_mergeSort];exact this
theorem Co (ls:List (List (Int × Int)))(v:Value)(w:World)(hr:Ey w v ls)(hval:ls.all dI=true)(hls:ls.length≤2)(hlen:∀ l∈ls,l.length≤10000000) :
  Calls Tryz.prog 201 #[v] w (Fg w (dV ls)):=by
 have HV:=aa hval;have HLN:=aa hlen;clear hval hlen;obtain ⟨g,cap,rfl,hlc,hcap,hg,hc⟩:=hr;go_enter Tryz.func201,Tryz.ntmps201;go_wp2
 go_loopw [3,10] (fun vo i wr=>∃ k:Nat,k≤ls.length∧i=.int .i64 k∧eG wr w.heap.size vo (dV (ls.take k))∧Below w.heap.size w wr) (fun _ i _=>ls.length - (intOf i).toNat)
 case atStart=>exact ⟨0,Nat.zero_le _,rfl,eG.nil _ _,Below.refl _ _⟩
 case round =>
  obtain ⟨k,hk,rfl,hown,hb⟩:=hrel
  by_cases hlt:k<ls.length
  ·obtain ⟨l,hl⟩:=aj ls k hlt
   obtain ⟨u,hu,hru⟩:=hc k l hl;have hcell:wr.cell? ⟨g,k,none⟩=some u:=(hb.cell (p:=⟨g,k,none⟩) hg).trans hu;obtain ⟨p,cap2,rfl,hlc2,hcap2,hp2⟩:=hru;have hlm:l.length≤10000000:=HLN.out l (List.mem_of_getElem? hl)
   have hol:(dV (ls.take k)).length≤40000000:=by
    have:=qE 10000000 (ls.take k) (fun l hl=>HLN.out l (List.mem_of_mem_take hl));have h2:(ls.take k).length≤2:=by simp;omega
    omega
   have hvl:dI l=true:=List.all_eq_true.1 HV.out l (List.mem_of_getElem? hl);have HVL:=aa hvl;have HL:=aa hl;obtain ⟨Z,hZ⟩:∃ Z,Z=dV (ls.take k):=⟨_,rfl⟩;rw [← hZ] at hown hol;have HZ:=aa hZ;clear hc hu hl hvl hZ;go_wp2;obtain ⟨wo,rfl⟩:∃ wo:World,wo=wr:=⟨_,rfl⟩
   go_loopw [3,16] (fun vo i wr=>∃ j:Nat,j≤l.length∧i=.int .i64 j∧eG wr w.heap.size vo (Z++eU (l.take j))∧Below w.heap.size w wr) (fun _ i _=>l.length - (intOf i).toNat)
   case atStart=>exact ⟨0,Nat.zero_le _,rfl,by simpa [eU] using hown,hb⟩
   case round =>
    obtain ⟨j,hj,rfl,hown2,hb2⟩:=hrel
    by_cases hlt2:j<l.length
    ·obtain ⟨b,off,rfl,hbs,hc⟩:=hp2 (by omega)
     obtain ⟨x,hx⟩:=aj l j hlt2;have hcc:=(hc.below hb2 hbs) j x hx;have hc1:=hcc.1;have hc2:=hcc.2;obtain ⟨hx0,hx1,hx2⟩:=iF HVL.out x (List.mem_of_getElem? hx)
     have hol2:(Z++eU (l.take j)).length≤80000000:=by
      rw [List.length_append,kE];have:(l.take j).length≤10000000:=by simp;omega
      omega
     have HX:=aa hx;clear hc hp2 hcc hx
     go_wp2_with (at_builtin;refine ve rfl _ _ rfl w.heap.size _ (Z++eU (l.take j)) x.1 (x.1+x.2) rfl ?c1 (wr.heap.size+1) 2 rfl ?c2 ?c3 (by omega) ?c4 ?_)
     case c1=>refine hown2.below ?_;(repeat' (first | exact Below.refl _ _ | exact Nat.le_refl _ | (refine Below.alloc ?_ ?_ _) | (refine aT ?_ _) | (refine Below.drew ?_) | (simp;done) | (simp;omega)))
     try (case c2=>exact aD (by simp) rfl)
     try (case c3=>exact aD (by simp) rfl)
     case c4=>have:=hb2.size;simp;omega
     intro v4 w4 ho4 hb4;have hb5:Below w.heap.size w w4:=(hb2.trans (by refine Below.mono (B:=wr.heap.size) ?_ hb2.size;(repeat' (first | exact Below.refl _ _ | exact Nat.le_refl _ | (refine Below.alloc ?_ ?_ _) | (refine aT ?_ _) | (refine Below.drew ?_) | (simp;done) | (simp;omega))))).trans hb4;clear hb4 hown2 hb2;go_wp2;go_roundw
     case rel=>exact ⟨j+1,by omega,by go_num,by rw [xw l j x HX.out];simpa using ho4,hb5⟩
     case measure=>simp [intOf];omega
    ·go_wp2
     go_roundw
     case rel=>exact ⟨k+1,by omega,by go_num,by rw [xJ ls k l HL.out,← HZ.out];rw [List.take_of_length_le (show l.length≤j by omega)] at hown2;exact hown2,hb2⟩
     case measure=>simp [intOf];omega
  ·have hkn:k=ls.length:=by omega
   subst hkn;rw [List.take_length] at hown
   have hol:(dV ls).length≤40000000:=by
    have:=qE 10000000 ls HLN.out;omega
   have hpt:=Az (dV ls);have HPT:=aa hpt;generalize dV ls=Z at *;clear hpt
   go_wp2_with fail
   refine (Bp w.heap.size _ _ wr hown (by omega)).mono ?_;rintro e w1 ⟨rfl,ho1,hb1⟩
   go_wp2_with fail
   refine (vJ w.heap.size _ _ w1 ho1 (by rw [List.length_mergeSort];omega)).mono ?_;rintro e w2 ⟨v2,rfl,ho2,hb2⟩;go_wp2;go_ret;exact ⟨v2,_,rfl,ho2,HPT.out.1,HPT.out.2,(hb.trans hb1).trans hb2⟩
theorem jC {x l:List (Int × Int)}(hx:iE x (Mem l))(hv:dI l=true):dI x=true:=by
 unfold dI;rw [List.all_eq_true];intro p hp;have:=El hx hv p hp;unfold nT;simp;omega
theorem Ay (P:List Int)(f:Int→Bool)(hs:P.Pairwise (·<·))(hb:∀ t∈P,0≤t∧t≤1073741824):dI (Gf P f)=true:=by
 unfold dI;rw [List.all_eq_true];intro r hr;have h1:=uq f P hs r hr;have h2:=hb _ h1.1;have h3:=hb _ h1.2.1;unfold nT;simp;omega
theorem BR (a b:List (Int × Int))(ha:dI a=true)(hb:dI b=true):∀ t∈dV [a,b],0≤t∧t≤1073741824:=by
 intro t ht;simp only [dV,List.flatMap_cons,List.flatMap_nil,List.append_nil,List.mem_append] at ht
 have key:∀ l:List (Int × Int),dI l=true→t∈eU l→0≤t∧t≤1073741824:=fun l hl h=>by
  unfold eU at h;rw [List.mem_flatMap] at h;obtain ⟨p,hp,h⟩:=h;have:=iF hl p hp;simp at h;rcases h with rfl | rfl <;> omega
 rcases ht with h | h
 ·exact key a ha h
 ·exact key b hb h
theorem zD (a b:List (Int × Int)):∀ r,r∈a∨r∈b→r.1∈dV [a,b]∧r.1+r.2∈dV [a,b]:=by
 intro r hr;simp only [dV,List.flatMap_cons,List.flatMap_nil,List.append_nil,List.mem_append]
 have key:∀ l:List (Int × Int),r∈l→r.1∈eU l∧r.1+r.2∈eU l:=fun l hl=>by
  unfold eU;rw [List.mem_flatMap,List.mem_flatMap];exact ⟨⟨r,hl,by simp⟩,⟨r,hl,by simp⟩⟩
 rcases hr with h | h
 ·exact ⟨.inl (key a h).1,.inl (key a h).2⟩
 ·exact ⟨.inr (key b h).1,.inr (key b h).2⟩
def Past (a:List (Int × Int))(i:Nat)(n:Int):Prop:=∀ p∈a.take i,p.1+p.2≤n
theorem tL (a:List (Int × Int))(n:Int):Past a 0 n:=by intro p hp;simp at hp
theorem tO {a:List (Int × Int)}{i:Nat}{n:Int}{x:Int × Int}(h:Past a i n)(hx:a[i]?=some x)(hn:x.1+x.2≤n):Past a (i+1) n:=by
 unfold Past;rw [take_snoc' a i x hx];intro p hp;rcases List.mem_append.1 hp with hp | hp
 ·exact h p hp
 ·simp at hp;subst hp;exact hn
theorem zO {a:List (Int × Int)}{i:Nat}{n m:Int}(h:Past a i n)(hm:n≤m):Past a i m:=fun p hp=>by have:=h p hp;omega
theorem zU {a:List (Int × Int)}(ha:NF a){i:Nat}{n:Int}(h:Past a i n)(x:Int × Int)(hx:a[i]?=some x)(h2:n<x.1+x.2):inB a n=decide (x.1≤n):=by
 rw [Bool.eq_iff_iff,EK ha i n h (fun y hy=>by rw [hx] at hy;cases hy;exact h2)]
 constructor
 ·rintro ⟨y,hy,h⟩;rw [hx] at hy;cases hy;simpa using h
 ·intro h;exact ⟨x,hx,by simpa using h⟩
theorem wV {a:List (Int × Int)}(ha:NF a){i:Nat}{n:Int}(h:Past a i n)(hi:a.length≤i):inB a n=false:=by
 have hn:a[i]?=none:=List.getElem?_eq_none hi;rw [Bool.eq_false_iff];intro hc;rw [EK ha i n h (fun y hy=>by rw [hn] at hy;cases hy)] at hc
 obtain ⟨y,hy,_⟩:=hc;rw [hn] at hy;cases hy
theorem Ch (P:List Int)(f:Int→Bool):Gf (P.take (0+1)) f=[]:=by
 cases P with
 | nil=>rfl
 | cons a t=>simp [Gf]
def vD (w:World)(S:Int→Prop)(N:Nat)(e:Ending)(w':World):Prop :=
 ∃ v x,e=.returned (.tuple #[v,.int .i64 0])∧bM w' w.heap.size v x∧iE x S∧dI x=true∧x.length≤N∧Below w.heap.size w w'
theorem zG (c:Bool→Bool→Bool)(h00:c false false=false)(gf:Nat)(eg:∀ args w,(callFunc gf args).run Tryz.prog w=.ok (.enter gf args) w)
  (hgf:∀ b1 b2 w,Calls Tryz.prog gf #[.bool b1,.bool b2] w fun e w'=>e=.returned (.bool (c b1 b2))∧w'=w)
  (a b:List (Int × Int)) (v1 v2:Value) (w:World) (hr1:RdR w v1 a) (hr2:RdR w v2 b) (hv1:dI a=true) (hv2:dI b=true) (hl1:a.length≤1000000) (hl2:b.length≤1000000) :
  Calls Tryz.prog 164 #[v1,v2,.func (.func gf) #[] #[]] w (vD w (fun n=>c (inB a n) (inB b n)=true) (2*(a.length+b.length))):=by
 have HV1:=aa hv1;have HV2:=aa hv2;have HC:=aa hgf;have H00:=aa h00;clear hv1 hv2 hgf h00;have hra:=hr1;have hrb:=hr2;obtain ⟨pa,ca,rfl,_⟩:=hra;obtain ⟨pb,cb,rfl,_⟩:=hrb;go_enter Tryz.func164,Tryz.ntmps164
 go_wp2_with fail
 refine (qK [a,b] _ _ (xK w _ _ a b _ hr1 hr2)).mono ?_;rintro e w1 ⟨rfl,hb1⟩;have hb01:Below w.heap.size w w1:=bel ((Below.refl _ _).alloc (Nat.le_refl _) _) hb1;have hv:[a,b].all dI=true:=by simp [HV1.out,HV2.out]
 go_wp2_with fail
 refine (jJ a _ w1 (hr1.below hb01) HV1.out (by omega)).mono ?_;rintro e w2 ⟨va,xa,rfl,hoa,hxa,hxal,hb2⟩;have hb02:=bel hb01 hb2
 go_wp2_with fail
 refine (jJ b _ w2 (hr2.below hb02) HV2.out (by omega)).mono ?_;rintro e w3 ⟨vb,xb,rfl,hob,hxb,hxbl,hb3⟩;have hb03:=bel hb02 hb3;have hrxa:=hoa.rd.below hb3;have hrxb:=hob.rd;clear hr1 hr2 hoa hob hb1 hb2 hb3 hb01 hb02 hv;have hva:=jC hxa HV1.out;have hvb:=jC hxb HV2.out;have HXA:=aa hxa;have HXB:=aa hxb;have HVA:=aa hva;have HVB:=aa hvb;clear hxa hxb hva hvb;have hra:=hrxa;have hrb:=hrxb;obtain ⟨qa,ca',rfl,hla,hcapa,hpa⟩:=hra;obtain ⟨qb,cb',rfl,hlb,hcapb,hpb⟩:=hrb
 go_wp2_with fail
 refine (Co [xa,xb] _ _ (xK w3 _ _ xa xb _ hrxa hrxb) (by simp [HVA.out,HVB.out]) (by simp) (by simp;omega)).mono ?_;rintro e w4 ⟨vp,P,rfl,hop,hP,hPl,hb4⟩;have hb34:Below w3.heap.size w3 w4:=bel ((Below.refl _ _).alloc (Nat.le_refl _) _) hb4
 have hPL:P.length≤2*(a.length+b.length):=by
  have h1:=kE xa;have h2:=kE xb;have h3:(dV [xa,xb]).length=(eU xa).length+(eU xb).length:=by simp [dV]
  omega
 have hPB:∀ t∈P,0≤t∧t≤1073741824:=fun t ht=>BR xa xb HVA.out HVB.out t ((hP.2 t).1 ht);have HP:=aa hP;have HPB:=aa hPB;clear hP hPl hPB hrxa hrxb;obtain ⟨qp,cp,rfl,hlp,hcapp,hpp⟩:=hop.rd;clear hop hb4;obtain ⟨f,hf⟩:∃ f:Int→Bool,f=fun t=>c (inB xa t) (inB xb t):=⟨_,rfl⟩;have HF:=aa hf;clear hf;go_wp2
 go_loopw [9,10,11,12] (fun vo vi vk vn wr=>∃ m i k:Nat,m≤P.length∧i≤xa.length∧k≤xb.length∧vn=.int .i64 m∧vi=.int .i64 i∧vk=.int .i64 k ∧
   (∀ t,P[m]?=some t→Past xa i t∧Past xb k t)∧bM wr w4.heap.size vo (Gf (P.take (m+1)) f)∧Below w4.heap.size w4 wr) (fun _ _ _ vn _=>P.length - (intOf vn).toNat)
 case atStart=>exact ⟨0,0,0,Nat.zero_le _,Nat.zero_le _,Nat.zero_le _,rfl,rfl,rfl,fun t _=>⟨tL _ _,tL _ _⟩,by rw [Ch];exact bM.nil _ _,Below.refl _ _⟩
 case round =>
  obtain ⟨m,i,k,hm,hi,hk,rfl,rfl,rfl,hpast,hown,hb⟩:=hrel;have HPAST:=aa hpast;clear hpast;obtain ⟨o,ho⟩:∃ o,o=Gf (P.take (m+1)) f:=⟨_,rfl⟩;rw [← ho] at hown;have hol:o.length≤2*(a.length+b.length):=by rw [ho];have:=wJ f (P.take (m+1));simp at this;omega
  have HO:=aa ho;clear ho
  by_cases hlt:m+1<P.length
  ·obtain ⟨bp,offp,rfl,hbps,hcp⟩:=hpp (by omega)
   obtain ⟨t,ht⟩:=aj P m (by omega);obtain ⟨t2,ht2⟩:=aj P (m+1) hlt;have hct:=(hcp.below hb hbps) m t ht;obtain ⟨hpa0,hpb0⟩:=HPAST.out t ht;have HPA:=aa hpa0;have HPB0:=aa hpb0;obtain ⟨ht0,ht1⟩:=HPB.out t (List.mem_of_getElem? ht);obtain ⟨ht20,ht21⟩:=HPB.out t2 (List.mem_of_getElem? ht2)
   have htt:t<t2:=by
    obtain ⟨h1,e1⟩:=List.getElem?_eq_some_iff.1 ht;obtain ⟨h2,e2⟩:=List.getElem?_eq_some_iff.1 ht2;have:=List.pairwise_iff_getElem.1 HP.out.1 m (m+1) h1 h2 (by omega);omega
   have HT:=aa ht;have HT2:=aa ht2;clear ht ht2 hpa0 hpb0;have hd31:decide ((m:Int)+1<(P.length:Int))=true:=by simp;omega
   go_upto_block 2 with fail
   obtain ⟨wo,rfl⟩:∃ wo:World,wo=wr:=⟨_,rfl⟩;clear hct
   go_cut [10] (fun vi wc=>∃ i:Nat,i≤xa.length∧vi=.int .i64 i∧Past xa i t∧(∀ x,xa[i]?=some x→t<x.1+x.2)∧Below wo.heap.size wo wc)
   case first =>
    go_wp2_with fail
    go_loopw [10] (fun vi wr=>∃ i:Nat,i≤xa.length∧vi=.int .i64 i∧Past xa i t∧Below wo.heap.size wo wr) (fun vi _=>xa.length - (intOf vi).toNat)
    case atStart=>exact ⟨i,hi,rfl,HPA.out,Below.refl _ _⟩
    case round =>
     obtain ⟨i',hi',rfl,hpast,hb5⟩:=hrel;have HPA':=aa hpast;clear hpast;have hbo5:=bel hb hb5
     by_cases hia:i'<xa.length
     ·obtain ⟨ba,offa,rfl,hbas,hca⟩:=hpa (by omega)
      obtain ⟨x,hx⟩:=aj xa i' hia;have hcc:=(hca.below (bel hb34 hbo5) hbas) i' x hx;have hc1:=hcc.1;have hc2:=hcc.2;obtain ⟨hx0,hx1,hx2⟩:=iF HVA.out x (List.mem_of_getElem? hx);have HX:=aa hx;clear hca hpa hcc hx
      by_cases hend:x.1+x.2≤t
      ·go_wp2
       go_quiet (fail);go_wp2;go_roundw
       case rel=>exact ⟨i'+1,by omega,by go_num,tO HPA'.out HX.out hend,aT hb5 _⟩
       case measure=>simp [intOf];omega
      ·have hend':decide (x.1+x.2≤t)=false:=by simp;omega
       go_wp2;go_quiet (fail);go_wp2;go_meet;exact ⟨i',hi',rfl,HPA'.out,fun y hy=>by rw [HX.out] at hy;cases hy;omega,aT hb5 _⟩
     ·have hia':decide (i'<xa.length)=false:=by simp;omega
      go_wp2;go_quiet (fail);go_wp2;go_meet;exact ⟨i',hi',rfl,HPA'.out,fun y hy=>absurd (List.getElem?_eq_some_iff.1 hy).1 (by omega),aT hb5 _⟩
   case rest =>
    clear HPA;obtain ⟨i',hi',rfl,hpast,hout,hb5⟩:=hcut;have HPA':=aa hpast;have HOUT:=aa hout;clear hpast hout;have hbo5:=bel hb hb5
    go_upto_block 4 with fail
    obtain ⟨wo2,rfl⟩:∃ wo2:World,wo2=wc:=⟨_,rfl⟩
    go_cut [11] (fun vk wc=>∃ k:Nat,k≤xb.length∧vk=.int .i64 k∧Past xb k t∧(∀ x,xb[k]?=some x→t<x.1+x.2)∧Below wo2.heap.size wo2 wc)
    case first =>
     go_wp2_with fail
     go_loopw [11] (fun vk wr=>∃ k:Nat,k≤xb.length∧vk=.int .i64 k∧Past xb k t∧Below wo2.heap.size wo2 wr) (fun vk _=>xb.length - (intOf vk).toNat)
     case atStart=>exact ⟨k,hk,rfl,HPB0.out,Below.refl _ _⟩
     case round =>
      obtain ⟨k',hk',rfl,hpast,hb6⟩:=hrel;have HPB':=aa hpast;clear hpast;have hbo6:=bel hbo5 hb6
      by_cases hkb:k'<xb.length
      ·obtain ⟨bb,offb,rfl,hbbs,hcb⟩:=hpb (by omega)
       obtain ⟨x,hx⟩:=aj xb k' hkb;have hcc:=(hcb.below (bel hb34 hbo6) hbbs) k' x hx;have hc1:=hcc.1;have hc2:=hcc.2;obtain ⟨hx0,hx1,hx2⟩:=iF HVB.out x (List.mem_of_getElem? hx);have HX:=aa hx;clear hcb hpb hcc hx
       by_cases hend:x.1+x.2≤t
       ·go_wp2
        go_quiet (fail);go_wp2;go_roundw
        case rel=>exact ⟨k'+1,by omega,by go_num,tO HPB'.out HX.out hend,aT hb6 _⟩
        case measure=>simp [intOf];omega
       ·have hend':decide (x.1+x.2≤t)=false:=by simp;omega
        go_wp2;go_quiet (fail);go_wp2;go_meet;exact ⟨k',hk',rfl,HPB'.out,fun y hy=>by rw [HX.out] at hy;cases hy;omega,aT hb6 _⟩
      ·have hkb':decide (k'<xb.length)=false:=by simp;omega
       go_wp2;go_quiet (fail);go_wp2;go_meet;exact ⟨k',hk',rfl,HPB'.out,fun y hy=>absurd (List.getElem?_eq_some_iff.1 hy).1 (by omega),aT hb6 _⟩
    case rest =>
     clear HPB0;obtain ⟨k',hk',rfl,hpast,hout,hb6⟩:=hcut;have HPB':=aa hpast;have HOUTB:=aa hout;clear hpast hout;have hbo6:=bel hbo5 hb6
     have hA:(xa.length≤i'∧inB xa t=false)∨(∃ x,i'<xa.length∧xa[i']?=some x∧x.1≤t∧inB xa t=true)∨(∃ x,i'<xa.length∧xa[i']?=some x∧t<x.1∧inB xa t=false):=by
      by_cases hia:i'<xa.length
      ·obtain ⟨x,hx⟩:=aj xa i' hia
       have:=zU HXA.out.1 HPA'.out x hx (HOUT.out x hx)
       by_cases hxt:x.1≤t
       ·exact .inr (.inl ⟨x,hia,hx,hxt,by rw [this];simpa using hxt⟩)
       ·exact .inr (.inr ⟨x,hia,hx,by omega,by rw [this];simpa using hxt⟩)
      ·exact .inl ⟨by omega,wV HXA.out.1 HPA'.out (by omega)⟩
     have hB:(xb.length≤k'∧inB xb t=false)∨(∃ x,k'<xb.length∧xb[k']?=some x∧x.1≤t∧inB xb t=true)∨(∃ x,k'<xb.length∧xb[k']?=some x∧t<x.1∧inB xb t=false):=by
      by_cases hia:k'<xb.length
      ·obtain ⟨x,hx⟩:=aj xb k' hia
       have:=zU HXB.out.1 HPB'.out x hx (HOUTB.out x hx)
       by_cases hxt:x.1≤t
       ·exact .inr (.inl ⟨x,hia,hx,hxt,by rw [this];simpa using hxt⟩)
       ·exact .inr (.inr ⟨x,hia,hx,by omega,by rw [this];simpa using hxt⟩)
      ·exact .inl ⟨by omega,wV HXB.out.1 HPB'.out (by omega)⟩
     go_upto_region 15 with fail
     obtain ⟨wo3,rfl⟩:∃ wo3:World,wo3=wc:=⟨_,rfl⟩
     go_cut [107] (fun v wc=>v=.bool (f t)∧Below wo3.heap.size wo3 wc)
     case first =>
      rcases hA with ⟨hA1,hA2⟩ | ⟨x,hA1,hx,hxt,hA2⟩ | ⟨x,hA1,hx,hxt,hA2⟩
      ·have hA3:decide (i'<xa.length)=false:=by simp;omega
       have HA2:=aa hA2;clear hA2;rcases hB with ⟨hB1,hB2⟩ | ⟨y,hB1,hy,hyt,hB2⟩ | ⟨y,hB1,hy,hyt,hB2⟩
       ·have hB3:decide (k'<xb.length)=false:=by simp;omega
        have HB2:=aa hB2;clear hB2;go_wp2;go_quiet ((refine Calls.quiet_of_same (HC.out _ _ _)));go_wp2;go_meet;exact ⟨by rw [HF.out];simp only [];rw [HA2.out,HB2.out],aT (Below.refl _ _) _⟩
       ·obtain ⟨bb,offb,rfl,hbbs,hcb⟩:=hpb (by omega)
        have hcc:=(hcb.below (bel hb34 hbo6) hbbs) k' y hy;have hcb1:=hcc.1;have HB2:=aa hB2;clear hB2 hcb hpb hcc hy;go_wp2;go_quiet ((refine Calls.quiet_of_same (HC.out _ _ _)));go_wp2;go_meet;exact ⟨by rw [HF.out];simp only [];rw [HA2.out,HB2.out],aT (Below.refl _ _) _⟩
       ·obtain ⟨bb,offb,rfl,hbbs,hcb⟩:=hpb (by omega)
        have hcc:=(hcb.below (bel hb34 hbo6) hbbs) k' y hy;have hcb1:=hcc.1;have HB2:=aa hB2;clear hB2 hcb hpb hcc hy;have hB3:decide (y.1≤t)=false:=by simp;omega
        go_wp2;go_quiet ((refine Calls.quiet_of_same (HC.out _ _ _)));go_wp2;go_meet;exact ⟨by rw [HF.out];simp only [];rw [HA2.out,HB2.out],aT (Below.refl _ _) _⟩
      ·obtain ⟨ba,offa,rfl,hbas,hca⟩:=hpa (by omega)
       have hcc:=(hca.below (bel hb34 hbo6) hbas) i' x hx;have hca1:=hcc.1;have HA2:=aa hA2;clear hA2 hca hpa hcc hx;rcases hB with ⟨hB1,hB2⟩ | ⟨y,hB1,hy,hyt,hB2⟩ | ⟨y,hB1,hy,hyt,hB2⟩
       ·have hB3:decide (k'<xb.length)=false:=by simp;omega
        have HB2:=aa hB2;clear hB2;go_wp2;go_quiet ((refine Calls.quiet_of_same (HC.out _ _ _)));go_wp2;go_meet;exact ⟨by rw [HF.out];simp only [];rw [HA2.out,HB2.out],aT (Below.refl _ _) _⟩
       ·obtain ⟨bb,offb,rfl,hbbs,hcb⟩:=hpb (by omega)
        have hcc:=(hcb.below (bel hb34 hbo6) hbbs) k' y hy;have hcb1:=hcc.1;have HB2:=aa hB2;clear hB2 hcb hpb hcc hy;go_wp2;go_quiet ((refine Calls.quiet_of_same (HC.out _ _ _)));go_wp2;go_meet;exact ⟨by rw [HF.out];simp only [];rw [HA2.out,HB2.out],aT (Below.refl _ _) _⟩
       ·obtain ⟨bb,offb,rfl,hbbs,hcb⟩:=hpb (by omega)
        have hcc:=(hcb.below (bel hb34 hbo6) hbbs) k' y hy;have hcb1:=hcc.1;have HB2:=aa hB2;clear hB2 hcb hpb hcc hy;have hB3:decide (y.1≤t)=false:=by simp;omega
        go_wp2;go_quiet ((refine Calls.quiet_of_same (HC.out _ _ _)));go_wp2;go_meet;exact ⟨by rw [HF.out];simp only [];rw [HA2.out,HB2.out],aT (Below.refl _ _) _⟩
      ·obtain ⟨ba,offa,rfl,hbas,hca⟩:=hpa (by omega)
       have hcc:=(hca.below (bel hb34 hbo6) hbas) i' x hx;have hca1:=hcc.1;have HA2:=aa hA2;clear hA2 hca hpa hcc hx;have hA3:decide (x.1≤t)=false:=by simp;omega
       rcases hB with ⟨hB1,hB2⟩ | ⟨y,hB1,hy,hyt,hB2⟩ | ⟨y,hB1,hy,hyt,hB2⟩
       ·have hB3:decide (k'<xb.length)=false:=by simp;omega
        have HB2:=aa hB2;clear hB2;go_wp2;go_quiet ((refine Calls.quiet_of_same (HC.out _ _ _)));go_wp2;go_meet;exact ⟨by rw [HF.out];simp only [];rw [HA2.out,HB2.out],aT (Below.refl _ _) _⟩
       ·obtain ⟨bb,offb,rfl,hbbs,hcb⟩:=hpb (by omega)
        have hcc:=(hcb.below (bel hb34 hbo6) hbbs) k' y hy;have hcb1:=hcc.1;have HB2:=aa hB2;clear hB2 hcb hpb hcc hy;go_wp2;go_quiet ((refine Calls.quiet_of_same (HC.out _ _ _)));go_wp2;go_meet;exact ⟨by rw [HF.out];simp only [];rw [HA2.out,HB2.out],aT (Below.refl _ _) _⟩
       ·obtain ⟨bb,offb,rfl,hbbs,hcb⟩:=hpb (by omega)
        have hcc:=(hcb.below (bel hb34 hbo6) hbbs) k' y hy;have hcb1:=hcc.1;have HB2:=aa hB2;clear hB2 hcb hpb hcc hy;have hB3:decide (y.1≤t)=false:=by simp;omega
        go_wp2;go_quiet ((refine Calls.quiet_of_same (HC.out _ _ _)));go_wp2;go_meet;exact ⟨by rw [HF.out];simp only [];rw [HA2.out,HB2.out],aT (Below.refl _ _) _⟩
     case rest =>
      clear hA hB;obtain ⟨rfl,hb7⟩:=hcut;have hbo7:=bel hbo6 hb7;have hct2:=(hcp.below hbo7 hbps) (m+1) t2 HT2.out;clear hcp
      have hnext:∀ t',P[m+1]?=some t'→Past xa i' t'∧Past xb k' t':=fun t' h=>by
       rw [HT2.out] at h;cases h
       exact ⟨zO HPA'.out (by omega),zO HPB'.out (by omega)⟩
      have HNEXT:=aa hnext;clear hnext;cases hft:f t
      ·have hsg:Gf (P.take (m+1+1)) f=o:=by rw [tu P f m t t2 HT.out HT2.out,← HO.out,hft];simp
       have HSG:=aa hsg;clear hsg;go_wp2;go_roundw
       case rel=>exact ⟨m+1,i',k',by omega,hi',hk',by go_num,rfl,rfl,HNEXT.out,by rw [HSG.out];exact hown.below (bel (bel hb5 hb6) hb7),hbo7⟩
       case measure=>simp [intOf];omega
      ·have hsg:Gf (P.take (m+1+1)) f=o++[(t,t2 - t)]:=by rw [tu P f m t t2 HT.out HT2.out,← HO.out,hft];simp
       have HSG:=aa hsg;clear hsg
       go_wp2_with (at_builtin;refine jg rfl _ _ rfl w4.heap.size _ o (t,t2 - t) rfl ?c1 wc.heap.size 1 rfl ?c2 ?c3 (by omega) ?c4 ?_)
       case c1=>refine (hown.below (bel (bel hb5 hb6) hb7)).below ?_;(repeat' (first | exact Below.refl _ _ | exact Nat.le_refl _ | (refine Below.alloc ?_ ?_ _) | (refine aT ?_ _) | (refine Below.drew ?_) | (simp;done) | (simp;omega)))
       try (case c2=>exact aD (by simp) rfl)
       try (case c3=>exact aD (by simp) rfl)
       case c4=>have:=hbo7.size;simp;omega
       intro v8 w8 ho8 hb8 _;have hb9:Below w4.heap.size w4 w8:=(hbo7.trans (by refine Below.mono (B:=wc.heap.size) ?_ hbo7.size;(repeat' (first | exact Below.refl _ _ | exact Nat.le_refl _ | (refine Below.alloc ?_ ?_ _) | (refine aT ?_ _) | (refine Below.drew ?_) | (simp;done) | (simp;omega))))).trans hb8;clear hb8 hown;go_wp2;go_roundw
       case rel=>exact ⟨m+1,i',k',by omega,hi',hk',by go_num,rfl,rfl,HNEXT.out,by rw [HSG.out];exact ho8,hb9⟩
       case measure=>simp [intOf];omega
  ·have hd31:decide ((m:Int)+1<(P.length:Int))=false:=by simp;omega
   have hsg:Gf P f=o:=by
    have:=HO.out;rw [List.take_of_length_le (by omega)] at this;exact this.symm
   have hov:dI o=true:=by rw [← hsg];exact Ay P f HP.out.1 HPB.out
   have HSG:=aa hsg;have HOV:=aa hov;clear hsg hov
   go_wp2_with fail
   refine (jJ o _ wr hown.rd HOV.out (by omega)).mono ?_;rintro e w5 ⟨v5,x5,rfl,ho5,hx5,hx5l,hb5⟩;go_wp2;go_ret2;refine ⟨v5,x5,rfl,ho5.mono (bel (bel hb03 hb34) hb).size,hx5.congr (fun n=>?_),jC hx5 HOV.out,by omega,bel (bel (bel hb03 hb34) hb) hb5⟩
   rw [← HSG.out,HF.out,xD xa xb c H00.out P HP.out.1 (fun r hr=>by
    have:=zD xa xb r hr
    exact ⟨(HP.out.2 _).2 this.1,(HP.out.2 _).2 this.2⟩) n]
   rw [yl (HXA.out.2 n),yl (HXB.out.2 n)]
def cM (x y:Bool):Bool:=x&&!y
theorem EY (b1 b2:Bool)(w:World):Calls Tryz.prog 165 #[.bool b1,.bool b2] w fun e w'=>e=.returned (.bool (cM b1 b2))∧w'=w:=by
 cases b1 <;> cases b2 <;> (go_enter Tryz.func165,Tryz.ntmps165;go_wp2;go_ret;exact ⟨rfl,rfl⟩)
theorem DK (a b:List (Int × Int))(v1 v2:Value)(w:World)(hr1:RdR w v1 a)(hr2:RdR w v2 b)(hv1:dI a=true)(hv2:dI b=true)(hl1:a.length≤1000000)(hl2:b.length≤1000000) :
  Calls Tryz.prog 108 #[v1,v2] w (vD w (fun n=>cM (inB a n) (inB b n)=true) (2*(a.length+b.length))):=by
 have hcon:=zG cM rfl 165 (enters_of Tryz.func165 (by kernel_rfl) rfl) EY a b v1 v2 w hr1 hr2 hv1 hv2 hl1 hl2;have HC:=aa hcon;clear hcon hr1 hr2 hv1 hv2;go_enter Tryz.func108,Tryz.ntmps108
 go_wp2_with fail
 refine HC.out.mono ?_;rintro e w' ⟨v,x,rfl,h⟩;have H:=aa h;clear h;go_wp2;go_ret2;exact ⟨v,x,rfl,H.out⟩
end Go.Proofs.YtjdfihglehfelaaGreatDoor
