/- Lemmas: RanF, SpE. -/
import Derived.Test.YtaagglbgohjldaaGreatDoorQv24
import Derived.Shelf.SlicesQ.Equal
set_option maxRecDepth 100000
set_option maxHeartbeats 32000000
set_option linter.all false
namespace Go.Proofs.YtaagglbgohjldaaGreatDoor
open Go.Proofs.Tryz
open Go.RowKit
variable {a:List (Int × Int)}{i:Nat}{n:Int}
theorem jC {x l:List (Int × Int)}(hx:iE x (Mem l))(hv:dI l=true):dI x=true:=by
 unfold dI;rw [eL];intro p hp;have:=El hx hv p hp;unfold nT;simp;omega
theorem Ay (P:List Int)(f:Int->Bool)(hs:P.Pairwise (·<·))(hb:∀ t∈P,0<=t/\t<=1073741824):dI (Gf P f)=true:=by
 unfold dI;rw [eL];intro r hr;have h1:=uq f P hs r hr;have h2:=hb _ h1.1;have h3:=hb _ h1.2.1;unfold nT;simp;omega
theorem BR (a b:List (Int × Int))(ha:dI a=true)(hb:dI b=true):∀ t∈dV [a,b],0<=t/\t<=1073741824:=by
 intro t ht;simp only [dV,lB,List.flatMap_nil,eM,oT] at ht;have key:∀ l:List (Int × Int),dI l=true->t∈eU l->0<=t/\t<=1073741824:=fun l hl h=>by
  unfold eU at h;rw [ur] at h;obtain ⟨p,hp,h⟩:=h;have:=iF hl p hp;simp at h;rcases h with rfl | rfl <;> omega
 rcases ht with h | h
 ·exact key a ha h
 exact key b hb h
theorem zD (a b:List (Int × Int)):∀ r,r∈a\/r∈b->r.1∈dV [a,b]/\r.1+r.2∈dV [a,b]:=by
 intro r hr;simp only [dV,lB,List.flatMap_nil,eM,oT];have key:∀ l:List (Int × Int),r∈l->r.1∈eU l/\r.1+r.2∈eU l:=fun l hl=>by
  unfold eU;rw [ur,ur];exact ⟨⟨r,hl,TcD⟩,⟨r,hl,TcD⟩⟩
 rcases hr with h | h
 ·exact ⟨.inl (key a h).1,.inl (key a h).2⟩
 exact ⟨.inr (key b h).1,.inr (key b h).2⟩
def Past (a:List (Int × Int))(i:Nat)(n:Int):Prop:=∀ p∈a.take i,p.1+p.2<=n
theorem tL (a:List (Int × Int))(n:Int):Past a 0 n:=by intro p hp;simp at hp
theorem tO {x:Int × Int}(h:Past a i n)(hx:a[i]?=some x)(hn:x.1+x.2<=n):Past a (i+1) n:=by
 unfold Past;rw [take_snoc' a i x hx];intro p hp;rcases List.mem_append.1 hp with hp | hp
 ·exact h p hp
 simp at hp;subst hp;exact hn
theorem zO {m:Int}(h:Past a i n)(hm:n<=m):Past a i m:=fun p hp=>by have:=h p hp;omega
theorem zU (ha:NF a)(h:Past a i n)(x:Int × Int)(hx:a[i]?=some x)(h2:n<x.1+x.2):kO a n=decide (x.1<=n):=by
 rw [mN,EK ha i n h (fun y hy=>by rw [hx] at hy;cases hy;exact h2)];constructor
 ·rintro ⟨y,hy,h⟩;rw [hx] at hy;cases hy;simpa using h
 intro h;exact ⟨x,hx,Tc5⟩
theorem wV (ha:NF a)(h:Past a i n)(hi:a.length<=i):kO a n=false:=by
 have hn:a[i]?=none:=xj hi;rw [Bool.eq_false_iff];intro hc;rw [EK ha i n h (fun y hy=>by rw [hn] at hy;cases hy)] at hc;obtain ⟨y,hy,_⟩:=hc;rw [hn] at hy;cases hy
theorem Ch (P:List Int)(f:Int->Bool):Gf (P.take (0+1)) f=[]:=by
 cases P with
 | nil=>rfl
 | cons a t=>simp [Gf]
def vD (w:World)(S:Int->Prop)(N:Nat)(e:Ending)(w':World):Prop :=
 ∃ v x,e=.returned (.tuple #[v,.int .i64 0])/\bM w' w.heap.size v x/\iE x S/\dI x=true/\x.length<=N/\Below w.heap.size w w'
theorem Tct {p:Prop}(h:p:=by
 go_wp2;go_quiet ((refine po (HC.o _ _ _)))
 go_wp2;go_meet
 exact ⟨by rw [HF.o];simp only [];rw [HA2.o,cm.o],aT (bj _ _) _⟩):p:=h
theorem TaX {p:Prop}(h:p:=by
 rcases hB with ⟨hB1,hB2⟩ | ⟨y,hB1,hy,Sk,hB2⟩ | ⟨y,hB1,hy,Sk,hB2⟩
 ·have hB3:decide (k'<xb.length)=false:=by simp;omega
  have cm:=aa hB2;clear hB2;exact Tct
 ·obtain ⟨bb,as9,rfl,B9,hcb⟩:=hpb TcC;have hcc:=(hcb.below (mn hb34 C5) B9) k' y hy;have hcb1:=hcc.1;have cm:=aa hB2;clear hB2 hcb hpb hcc hy;exact Tct
 obtain ⟨bb,as9,rfl,B9,hcb⟩:=hpb TcC;have hcc:=(hcb.below (mn hb34 C5) B9) k' y hy;have hcb1:=hcc.1;have cm:=aa hB2;clear hB2 hcb hpb hcc hy;have hB3:decide (y.1<=t)=false:=by simp;omega
 exact Tct):p:=h
theorem Tbs {p:Prop}(h:p:=by
 by_cases Nu:x.1<=t
 ·exact .inr (.inl ⟨x,Nt,hx,Nu,by rw [this];simpa using Nu⟩)
 exact .inr (.inr ⟨x,Nt,hx,TcC,by rw [this];simpa using Nu⟩)):p:=h
theorem Tbm {p:Prop}(h:p:=by
 obtain ⟨h1,e1⟩:=List.getElem?_eq_some_iff.1 ht;obtain ⟨h2,e2⟩:=List.getElem?_eq_some_iff.1 ht2;have:=List.pairwise_iff_getElem.1 HP.o.1 m (m+1) h1 h2 TcC;omega):p:=h
theorem zG (c:Bool->Bool->Bool)(h00:c false false=false)(gf:Nat)(eg:∀ args w,(callFunc gf args).run prog w=.ok (.enter gf args) w)
  (YM:∀ b1 b2 w,Calls prog gf #[.bool b1,.bool b2] w fun e w'=>e=.returned (.bool (c b1 b2))/\w'=w)
  (a b:List (Int × Int)) (v1 v2:Value) (w:World) (hr1:xo w v1 a) (hr2:xo w v2 b) (hv1:dI a=true) (hv2:dI b=true) (hl1:a.length<=1000000) (hl2:b.length<=1000000) :
  Calls prog 116 #[v1,v2,.func (.func gf) #[] #[]] w (vD w (fun n=>c (kO a n) (kO b n)=true) (2*(a.length+b.length))):=by
 have Zx:=aa hv1;have Vn:=aa hv2;have HC:=aa YM;have H00:=aa h00;clear hv1 hv2 YM h00;have RZ:=hr1;have sB:=hr2;obtain ⟨pa,ca,rfl,_⟩:=RZ;obtain ⟨pb,cb,rfl,_⟩:=sB;go_enter func116,ntmps116
 go_wp2_with fail;refine (qK [a,b] _ _ (xK w _ _ a b _ hr1 hr2)).mono ?_;rintro e w1 ⟨rfl,hb1⟩;have hb01:Below w.heap.size w w1:=mn ((bj _ _).alloc (bk _) _) hb1;have hv:[a,b].all dI=true:=by simp [Zx.o,Vn.o]
 go_wp2_with fail;refine (jJ a _ w1 (hr1.below hb01) Zx.o TcC).mono ?_;rintro e w2 ⟨va,xa,rfl,Od,R1,ab6,hb2⟩;have hb02:=mn hb01 hb2;go_wp2_with fail;refine (jJ b _ w2 (hr2.below hb02) Vn.o TcC).mono ?_;rintro e w3 ⟨vb,xb,rfl,gR,qu,ab7,hb3⟩;have hb03:=mn hb02 hb3;have PA:=Od.rd.below hb3;have PB:=gR.rd;clear hr1 hr2 Od gR hb1 hb2 hb3 hb01 hb02 hv;have hva:=jC R1 Zx.o;have XV:=jC qu Vn.o;have Hn:=aa R1;have Qp:=aa qu;have Nc:=aa hva;have Wx:=aa XV;clear R1 qu hva XV;have RZ:=PA;have sB:=PB;obtain ⟨qa,ca',rfl,V8,YN,Qq⟩:=RZ;obtain ⟨qb,cb',rfl,Li,YO,hpb⟩:=sB;go_wp2_with fail;refine (Co [xa,xb] _ _ (xK w3 _ _ xa xb _ PA PB) (by simp [Nc.o,Wx.o]) TcD TcH).mono ?_;rintro e w4 ⟨vp,P,rfl,hop,hP,Pe,hb4⟩;have hb34:Below w3.heap.size w3 w4:=mn ((bj _ _).alloc (bk _) _) hb4;have Ps:P.length<=2*(a.length+b.length):=by
  have h1:=kE xa;have h2:=kE xb;have h3:(dV [xa,xb]).length=(eU xa).length+(eU xb).length:=by simp [dV]
  omega
 have YP:∀ t∈P,0<=t/\t<=1073741824:=fun t ht=>BR xa xb Nc.o Wx.o t ((hP.2 t).1 ht);have HP:=aa hP;have Kp:=aa YP;clear hP Pe YP PA PB;obtain ⟨qp,cp,rfl,Ui,Sa,Un⟩:=hop.rd;clear hop hb4;obtain ⟨f,hf⟩:∃ f:Int->Bool,f=fun t=>c (kO xa t) (kO xb t):=⟨_,rfl⟩;have HF:=aa hf;clear hf;go_wp2
 go_loopw [9,10,11,12] (fun vo vi vk vn wr=>∃ m i k:Nat,m<=P.length/\i<=xa.length/\k<=xb.length/\vn=.int .i64 m/\vi=.int .i64 i/\vk=.int .i64 k /\
   (∀ t,P[m]?=some t->Past xa i t/\Past xb k t)/\bM wr w4.heap.size vo (Gf (P.take (m+1)) f)/\Below w4.heap.size w4 wr) (fun _ _ _ vn _=>P.length - (intOf vn).toNat)
 case atStart=>exact ⟨0,0,0,cg _,cg _,cg _,rfl,rfl,rfl,fun t _=>⟨tL _ _,tL _ _⟩,by rw [Ch];exact bM.nil _ _,bj _ _⟩
 obtain ⟨m,i,k,hm,hi,hk,rfl,rfl,rfl,oy,hown,hb⟩:=hrel;have Sc:=aa oy;clear oy;obtain ⟨o,ho⟩:∃ o,o=Gf (P.take (m+1)) f:=⟨_,rfl⟩;rw [<- ho] at hown;have hol:o.length<=2*(a.length+b.length):=by rw [ho];have:=wJ f (P.take (m+1));simp at this;omega
 have HO:=aa ho;clear ho;by_cases hlt:m+1<P.length
 ·obtain ⟨bp,PC,rfl,as8,Mq⟩:=Un TcC;obtain ⟨t,ht⟩:=aj P m TcC;obtain ⟨t2,ht2⟩:=aj P (m+1) hlt;have Wy:=(Mq.below hb as8) m t ht;obtain ⟨Sd,Sg⟩:=Sc.o t ht;have Oe:=aa Sd;have Sh:=aa Sg;obtain ⟨ht0,ht1⟩:=Kp.o t (ct ht);obtain ⟨ht20,ht21⟩:=Kp.o t2 (ct ht2);have Nh:t<t2:=by
   exact Tbm
  have HT:=aa ht;have HT2:=aa ht2;clear ht ht2 Sd Sg;have hd31:decide ((m:Int)+1<(P.length:Int))=true:=by simp;omega
  go_upto_block 2 with fail
  obtain ⟨wo,rfl⟩:∃ wo:World,wo=wr:=⟨_,rfl⟩;clear Wy
  go_cut [10] (fun vi wc=>∃ i:Nat,i<=xa.length/\vi=.int .i64 i/\Past xa i t/\(∀ x,xa[i]?=some x->t<x.1+x.2)/\Below wo.heap.size wo wc)
  case first =>
   go_wp2_with fail;go_loopw [10] (fun vi wr=>∃ i:Nat,i<=xa.length/\vi=.int .i64 i/\Past xa i t/\Below wo.heap.size wo wr) (fun vi _=>xa.length - (intOf vi).toNat)
   exact ⟨i,hi,rfl,Oe.o,bj _ _⟩;obtain ⟨i',hi',rfl,oy,hb5⟩:=hrel;have ar0:=aa oy;clear oy;have as7:=mn hb hb5;by_cases Nt:i'<xa.length
   ·obtain ⟨ba,Si,rfl,LV,mB⟩:=Qq TcC;obtain ⟨x,hx⟩:=aj xa i' Nt;have hcc:=(mB.below (mn hb34 as7) LV) i' x hx;have hc1:=hcc.1;have hc2:=hcc.2;obtain ⟨hx0,hx1,hx2⟩:=iF Nc.o x (ct hx);have HX:=aa hx;clear mB Qq hcc hx;by_cases hend:x.1+x.2<=t
    ·go_wp2;go_quiet (fail);go_wp2;go_roundw
     exact ⟨i'+1,TcC,TcG,tO ar0.o HX.o hend,aT hb5 _⟩;simp [intOf];omega
    have hend':decide (x.1+x.2<=t)=false:=by simp;omega
    go_wp2;go_quiet (fail);go_wp2;go_meet;exact ⟨i',hi',rfl,ar0.o,fun y hy=>by rw [HX.o] at hy;cases hy;omega,aT hb5 _⟩
   have ab8:decide (i'<xa.length)=false:=by simp;omega
   go_wp2;go_quiet (fail);go_wp2;go_meet;exact ⟨i',hi',rfl,ar0.o,fun y hy=>absurd (List.getElem?_eq_some_iff.1 hy).1 TcC,aT hb5 _⟩
  case rest =>
   clear Oe;obtain ⟨i',hi',rfl,oy,hout,hb5⟩:=hcut;have ar0:=aa oy;have Wz:=aa hout;clear oy hout;have as7:=mn hb hb5;go_upto_block 4 with fail
   obtain ⟨Qr,rfl⟩:∃ Qr:World,Qr=wc:=⟨_,rfl⟩
   go_cut [11] (fun vk wc=>∃ k:Nat,k<=xb.length/\vk=.int .i64 k/\Past xb k t/\(∀ x,xb[k]?=some x->t<x.1+x.2)/\Below Qr.heap.size Qr wc)
   case first =>
    go_wp2_with fail;go_loopw [11] (fun vk wr=>∃ k:Nat,k<=xb.length/\vk=.int .i64 k/\Past xb k t/\Below Qr.heap.size Qr wr) (fun vk _=>xb.length - (intOf vk).toNat)
    exact ⟨k,hk,rfl,Sh.o,bj _ _⟩;obtain ⟨k',hk',rfl,oy,hb6⟩:=hrel;have ar1:=aa oy;clear oy;have C5:=mn as7 hb6;by_cases hkb:k'<xb.length
    ·obtain ⟨bb,as9,rfl,B9,hcb⟩:=hpb TcC;obtain ⟨x,hx⟩:=aj xb k' hkb;have hcc:=(hcb.below (mn hb34 C5) B9) k' x hx;have hc1:=hcc.1;have hc2:=hcc.2;obtain ⟨hx0,hx1,hx2⟩:=iF Wx.o x (ct hx);have HX:=aa hx;clear hcb hpb hcc hx;by_cases hend:x.1+x.2<=t
     ·go_wp2;go_quiet (fail);go_wp2;go_roundw
      exact ⟨k'+1,TcC,TcG,tO ar1.o HX.o hend,aT hb6 _⟩;simp [intOf];omega
     have hend':decide (x.1+x.2<=t)=false:=by simp;omega
     go_wp2;go_quiet (fail);go_wp2;go_meet;exact ⟨k',hk',rfl,ar1.o,fun y hy=>by rw [HX.o] at hy;cases hy;omega,aT hb6 _⟩
    have hkb':decide (k'<xb.length)=false:=by simp;omega
    go_wp2;go_quiet (fail);go_wp2;go_meet;exact ⟨k',hk',rfl,ar1.o,fun y hy=>absurd (List.getElem?_eq_some_iff.1 hy).1 TcC,aT hb6 _⟩
   case rest =>
    clear Sh;obtain ⟨k',hk',rfl,oy,hout,hb6⟩:=hcut;have ar1:=aa oy;have Sj:=aa hout;clear oy hout;have C5:=mn as7 hb6;have hA:(xa.length<=i'/\kO xa t=false)\/(∃ x,i'<xa.length/\xa[i']?=some x/\x.1<=t/\kO xa t=true)\/(∃ x,i'<xa.length/\xa[i']?=some x/\t<x.1/\kO xa t=false):=by
     by_cases Nt:i'<xa.length
     ·obtain ⟨x,hx⟩:=aj xa i' Nt;have:=zU Hn.o.1 ar0.o x hx (Wz.o x hx);exact Tbs
     exact .inl ⟨TcC,wV Hn.o.1 ar0.o TcC⟩
    have hB:(xb.length<=k'/\kO xb t=false)\/(∃ x,k'<xb.length/\xb[k']?=some x/\x.1<=t/\kO xb t=true)\/(∃ x,k'<xb.length/\xb[k']?=some x/\t<x.1/\kO xb t=false):=by
     by_cases Nt:k'<xb.length
     ·obtain ⟨x,hx⟩:=aj xb k' Nt;have:=zU Qp.o.1 ar1.o x hx (Sj.o x hx);exact Tbs
     exact .inl ⟨TcC,wV Qp.o.1 ar1.o TcC⟩
    go_upto_region 15 with fail
    obtain ⟨Uo,rfl⟩:∃ Uo:World,Uo=wc:=⟨_,rfl⟩
    go_cut [107] (fun v wc=>v=.bool (f t)/\Below Uo.heap.size Uo wc)
    case first =>
     rcases hA with ⟨hA1,hA2⟩ | ⟨x,hA1,hx,Nu,hA2⟩ | ⟨x,hA1,hx,Nu,hA2⟩
     ·have hA3:decide (i'<xa.length)=false:=by simp;omega
      have HA2:=aa hA2;clear hA2;exact TaX
     ·obtain ⟨ba,Si,rfl,LV,mB⟩:=Qq TcC;have hcc:=(mB.below (mn hb34 C5) LV) i' x hx;have WB:=hcc.1;have HA2:=aa hA2;clear hA2 mB Qq hcc hx;exact TaX
     obtain ⟨ba,Si,rfl,LV,mB⟩:=Qq TcC;have hcc:=(mB.below (mn hb34 C5) LV) i' x hx;have WB:=hcc.1;have HA2:=aa hA2;clear hA2 mB Qq hcc hx;have hA3:decide (x.1<=t)=false:=by simp;omega
     exact TaX
    case rest =>
     clear hA hB;obtain ⟨rfl,hb7⟩:=hcut;have LW:=mn C5 hb7;have ab9:=(Mq.below LW as8) (m+1) t2 HT2.o;clear Mq;have Og:∀ t',P[m+1]?=some t'->Past xa i' t'/\Past xb k' t':=fun t' h=>by
      rw [HT2.o] at h;cases h
      exact ⟨zO ar0.o TcC,zO ar1.o TcC⟩
     have Oh:=aa Og;clear Og;cases Oi:f t
     ·have yq:Gf (P.take (m+1+1)) f=o:=by rw [tu P f m t t2 HT.o HT2.o,<- HO.o,Oi];simp
      have B6:=aa yq;clear yq;go_wp2;go_roundw;exact ⟨m+1,i',k',TcC,hi',hk',TcG,rfl,rfl,Oh.o,by rw [B6.o];exact hown.below (mn (mn hb5 hb6) hb7),LW⟩;simp [intOf];omega
     have yq:Gf (P.take (m+1+1)) f=o++[(t,t2 - t)]:=by rw [tu P f m t t2 HT.o HT2.o,<- HO.o,Oi];simp
     have B6:=aa yq;clear yq;go_wp2_with (at_builtin;refine jg rfl _ _ rfl w4.heap.size _ o (t,t2 - t) rfl ?c1 wc.heap.size 1 rfl ?c2 ?c3 TcC ?c4 ?_)
     case c1=>refine (hown.below (mn (mn hb5 hb6) hb7)).below ?_;(repeat' (first | exact bj _ _ | exact bk _ | (refine dT ?_ ?_ _) | (refine aT ?_ _) | (refine ee ?_) | (simp;done) | (simp;omega)))
     try (case c2=>exact aD TcD rfl)
     try (case c3=>exact aD TcD rfl)
     case c4=>have:=LW.size;simp;omega
     intro v8 w8 ho8 hb8 _;have hb9:Below w4.heap.size w4 w8:=(LW.trans (by refine kt (B:=wc.heap.size) ?_ LW.size;(repeat' (first | exact bj _ _ | exact bk _ | (refine dT ?_ ?_ _) | (refine aT ?_ _) | (refine ee ?_) | (simp;done) | (simp;omega))))).trans hb8;clear hb8 hown;go_wp2;go_roundw;exact ⟨m+1,i',k',TcC,hi',hk',TcG,rfl,rfl,Oh.o,by rw [B6.o];exact ho8,hb9⟩;simp [intOf];omega
 have hd31:decide ((m:Int)+1<(P.length:Int))=false:=by simp;omega
 have yq:Gf P f=o:=by
  have:=HO.o;rw [jz TcC] at this;exact this.symm
 have Rx:dI o=true:=by rw [<- yq];exact Ay P f HP.o.1 Kp.o
 have B6:=aa yq;have AG:=aa Rx;clear yq Rx;go_wp2_with fail;refine (jJ o _ wr hown.rd AG.o TcC).mono ?_;rintro e w5 ⟨v5,x5,rfl,ho5,hx5,ac0,hb5⟩;go_wp2;go_ret2;refine ⟨v5,x5,rfl,ho5.mono (mn (mn hb03 hb34) hb).size,hx5.congr (fun n=>?_),jC hx5 AG.o,TcC,mn (mn (mn hb03 hb34) hb) hb5⟩;rw [<- B6.o,HF.o,xD xa xb c H00.o P HP.o.1 (fun r hr=>by
  have:=zD xa xb r hr;exact ⟨(HP.o.2 _).2 this.1,(HP.o.2 _).2 this.2⟩) n]
 rw [yl (Hn.o.2 n),yl (Qp.o.2 n)]
def cM (x y:Bool):Bool:=x&&!y
theorem EY (b1 b2:Bool)(w:World):Calls prog 117 #[.bool b1,.bool b2] w fun e w'=>e=.returned (.bool (cM b1 b2))/\w'=w:=by
 cases b1 <;> cases b2 <;> (go_enter func117,ntmps117;go_wp2;go_ret;exact ⟨rfl,rfl⟩)
theorem DK (a b:List (Int × Int))(v1 v2:Value)(w:World)(hr1:xo w v1 a)(hr2:xo w v2 b)(hv1:dI a=true)(hv2:dI b=true)(hl1:a.length<=1000000)(hl2:b.length<=1000000) :
  Calls prog 70 #[v1,v2] w (vD w (fun n=>cM (kO a n) (kO b n)=true) (2*(a.length+b.length))):=by
 have hcon:=zG cM rfl 117 (enters_of func117 TcE rfl) EY a b v1 v2 w hr1 hr2 hv1 hv2 hl1 hl2;have HC:=aa hcon;clear hcon hr1 hr2 hv1 hv2;go_enter func70,ntmps70
 go_wp2_with fail;refine HC.o.mono ?_;rintro e w' ⟨v,x,rfl,h⟩;have H:=aa h;clear h;go_wp2;go_ret2;exact ⟨v,x,rfl,H.o⟩
open Go.Shelf
variable {nm:ByteArray}{ext:Int}{x:gy}{ps:List gy}
attribute [local go_sem] Oper.semAt_some
def fM (nm:ByteArray)(ext:Int)(ps:List gy):List (Int × Int):=ps.filterMap fun p=>if p.disk=nm/\0<=p.start/\p.start<ext/\0<p.len then some (p.start,min p.len (ext - p.start)) else none
theorem Bf (ps:List gy)(h:x.disk=nm/\0<=x.start/\x.start<ext/\0<x.len):fM nm ext (ps++[x])=fM nm ext ps++[(x.start,min x.len (ext - x.start))]:=by
 simp [fM,E0,h]
theorem jO (ps:List gy)(h:¬ (x.disk=nm/\0<=x.start/\x.start<ext/\0<x.len)):fM nm ext (ps++[x])=fM nm ext ps:=by
 unfold fM;rw [E0,List.filterMap_cons,bh h];simp
theorem nR (nm:ByteArray)(ext:Int)(ps:List gy):(fM nm ext ps).length<=ps.length:=List.length_filterMap_le _ _
theorem DF :∀ p∈fM nm ext ps,0<=p.1/\0<p.2/\p.1+p.2<=ext:=by
 intro p hp;unfold fM at hp;obtain ⟨x,_,hx⟩:=List.mem_filterMap.1 hp;by_cases c:x.disk=nm/\0<=x.start/\x.start<ext/\0<x.len
 ·rw [aw c] at hx;injection hx with hx;subst hx;dsimp only;omega
 rw [bh c] at hx
 cases hx
theorem uI (h:ext<=1000000):dI (fM nm ext ps)=true:=by
 unfold dI;rw [eL];intro p hp;have:=DF p hp;simp [nT];omega
def xG (Gb:List az)(F9:List ay)(nm:ByteArray)(w:World)(e:Ending)(w':World):Prop :=
 match bH Gb nm with
 | none=>e=.returned (.tuple #[.slice none 0 0,.int .i64 12])/\Below w.heap.size w w'
 | some D=>zz w (Mem (fM nm D.Gc (pieces F9))) (fM nm D.Gc (pieces F9)).length e w'
theorem CG {ok:Nat->Prop}(name:ByteArray)(id seq ext nx:Int)(tp dp vp hp:Option Addr)(tl tc dc vc hl hc:Nat)(Gb:List az)(F9:List ay)(nm:ByteArray)(w:World)(hr:ck aO 7 ok w [.slice dp Gb.length dc] Gb)(hd:Gb.length<=1000)(Sl:∀ D∈Gb,D.tags.length<=1000)(vu:∀ D∈Gb,0<=D.Gc/\D.Gc<=1000000)
  (hv:ck aN 6 ok w [.slice vp F9.length vc] F9) (mb:F9.length<=1000) (ht:qx F9) (CH:∀ p∈pieces F9,0<=p.start/\p.start<=1000000) (hpn:(pieces F9).length<=100000) :
  Calls prog 69 #[.agg (Tao name id seq ext nx tl tp tc Gb.length dp dc F9.length vp vc hl hp hc),.string nm] w (xG Gb F9 nm w):=by
 refine callsIn_wide (n:=3) |>.1 ?_;refine callsIn_of_wp_marks func69 rfl trivial ?_ rfl;simp only [ntmps69,List.size_toArray,cS,Ox,Nat.reduceAdd,Nat.reduceSub,Array.replicate_succ,Array.replicate_zero,List.push_toArray,List.append_toArray,List.nil_append,List.cons_append];refine wpIn_wide.2 ?_;have hB2:Below w.heap.size w ((w.alloc (.cells (Tao name id seq ext nx tl tp tc Gb.length dp dc F9.length vp vc hl hp hc) 31)).alloc (.cells #[.string nm] 9)):=((bj _ _).alloc (bk _) _).alloc TcD _;have hz2:((w.alloc (.cells (Tao name id seq ext nx tl tp tc Gb.length dp dc F9.length vp vc hl hp hc) 31)).alloc (.cells #[.string nm] 9)).heap.size=w.heap.size+2:=by simp
 have hg2:((w.alloc (.cells (Tao name id seq ext nx tl tp tc Gb.length dp dc F9.length vp vc hl hp hc) 31)).alloc (.cells #[.string nm] 9)).heap[w.heap.size]?=some (.cells (Tao name id seq ext nx tl tp tc Gb.length dp dc F9.length vp vc hl hp hc) 31 (0,0)):=(cj _ _ _ TcD).trans (b9 w _);have hn2:((w.alloc (.cells (Tao name id seq ext nx tl tp tc Gb.length dp dc F9.length vp vc hl hp hc) 31)).alloc (.cells #[.string nm] 9)).heap[w.heap.size+1]?=some (.cells #[.string nm] 9 (0,0)):=by
  have:=b9 (w.alloc (.cells (Tao name id seq ext nx tl tp tc Gb.length dp dc F9.length vp vc hl hp hc) 31)) (.cells #[.string nm] 9);rw [cW] at this;exact this
 have HR:=aa hr;clear hr;have HV:=aa hv;clear hv;have HT:=aa ht;clear ht;have Up:=aa Sl;clear Sl;have kj:=aa vu;clear vu;have sY:=aa CH;clear CH;have HG2:=aa hg2;clear hg2;have Nk:=aa hn2;clear hn2;have cm:=aa hB2;clear hB2;have NV:=aa hz2;clear hz2;go_wp2_with fail;generalize hW2:World.alloc (World.alloc w _) _=W2 at *;clear hW2;refine (vV (ok:=ok) name id seq ext nx tp dp vp hp tl tc dc F9.length vc hl hc Gb nm W2 ((ck.moves aO.moves).mv ⟨cm.o.size,fun b hb ho=>⟨ho,cm.o.block b hb⟩⟩ HR.o) hd Up.o).mono ?_;rintro e w3 ⟨hb3,hm⟩;have hg3:=(hb3.block _ (aq HG2.o)).trans HG2.o;have hn3:=(hb3.block _ (aq Nk.o)).trans Nk.o;have cJ:=Zbl cm hb3;have hz3:w.heap.size+2<=w3.heap.size:=by have:=hb3.size;have:=NV.o;omega
 clear hb3;unfold xG;cases hf:bH Gb nm with
 | none =>
  rw [hf] at hm;obtain rfl:=hm;clear hg3 hn3;have TF:=aa (cJ.o.trans ((ae w3 (.cells Taj 51)).mono cJ.o.size));go_wp2;exact ⟨.tuple #[.slice none 0 0,.int .i64 12],by simp [results,Tryz.results69,go_sem],by unfold xG;rw [hf];exact ⟨rfl,TF.o⟩⟩
 | some D =>
  rw [hf] at hm;obtain ⟨p3,n3,c3,rfl⟩:=hm;have hb4:Below w3.heap.size w3 ((w3.alloc (.cells (Tap D n3 p3 c3) 51)).alloc (.cells #[.slice none 0 0] 43)):=((bj _ _).alloc (bk _) _).alloc TcD _;have hz4:((w3.alloc (.cells (Tap D n3 p3 c3) 51)).alloc (.cells #[.slice none 0 0] 43)).heap.size=w3.heap.size+2:=by simp
  have hd4:((w3.alloc (.cells (Tap D n3 p3 c3) 51)).alloc (.cells #[.slice none 0 0] 43)).heap[w3.heap.size]?=some (.cells (Tap D n3 p3 c3) 51 (0,0)):=(cj _ _ _ TcD).trans (b9 w3 _);have hl4:((w3.alloc (.cells (Tap D n3 p3 c3) 51)).alloc (.cells #[.slice none 0 0] 43)).heap[w3.heap.size+1]?=some (.cells #[.slice none 0 0] 43 (0,0)):=by
   have:=b9 (w3.alloc (.cells (Tap D n3 p3 c3) 51)) (.cells #[.slice none 0 0] 43);rw [cW] at this;exact this
  have hg4:=(hb4.block _ (aq hg3)).trans hg3;have HN4:=aa ((hb4.block _ (aq hn3)).trans hn3);have YQ:=cr hg4;obtain ⟨y0,y1,y2,y3,y4,y5,y6,y7,y8⟩:=xr YQ;have eI:=Zbl cJ hb4;have HD4:=aa hd4;have WC:=aa hl4;have QZ:=aa hz4;clear YQ hb4 hz4 hd4 hl4 hg4 hg3 hn3;go_wp2_with fail;clear y0 y1 y2 y3 y4 y5 y6 y7 y8;generalize hW4:World.alloc (World.alloc w3 _) _=W4 at *;clear hW4;refine (Ew name id seq ext nx tp dp vp hp tl tc Gb.length dc F9.length vc hl hc W4).mono ?_;rintro e w5 ⟨rfl,rfl⟩;have hb5:=ae W4 (.cells (Tao name id seq ext nx tl tp tc Gb.length dp dc F9.length vp vc hl hp hc) 31);have HG5:=aa (b9 W4 (.cells (Tao name id seq ext nx tl tp tc Gb.length dp dc F9.length vp vc hl hp hc) 31));have HD5:=Zbk hb5 HD4;have HL5:=Zbk hb5 WC;have QS:=Zbk hb5 HN4;have eK:=Zbl eI hb5;have HZ5:Hid (W4.heap.size<(W4.alloc (.cells (Tao name id seq ext nx tl tp tc Gb.length dp dc F9.length vp vc hl hp hc) 31)).heap.size):=aa TcD;have Sm:=kj.o D (eV hf);clear hb5;go_wp2;generalize hW5:World.alloc W4 _=W5 at *;have hzz:=QZ.o;generalize Ms:W4.heap.size=Bg at *;generalize hBd:w3.heap.size=Bd at *;generalize hB1:W5.heap.size=B1 at *;clear hW5 HD4 WC HN4 eI QZ;have hz5:=HZ5.o;have hzb:Bd+2<=Bg:=by omega
  clear hzz hBd Ms;refine (wpIn_wide (n:=3)).1 ?_;refine wpIn_rangeFunc_ownH (F:=Fence.wide) rfl TcC (gf:=161) (lb:=#[.pointer (some Bg)]) rfl trivial (enters_of func161 TcE rfl)
   (zh (3 - 1) w.heap.size Bg W5 vp vc F9 (by simp [World.cell?,HG5.o]) TcC TcC ((ck.moves aN.moves).mv ⟨eK.o.size,fun b hb ho=>⟨hb,eK.o.block b hb⟩⟩ HV.o) HT.o mb) KpT.trans
   (fun W l o o' hl h h1 h2=>⟨belowK_b (w:=W5) TcC W l o o' hl h h1 h2,fun k cs t z e _=>(grownBy_putObj' W l o').block k (aq e) (fun q=>by injection q with q;subst q;rw [e] at h;injection h with h;subst h;cases h1)⟩) (bj _ _) (fun _=>rfl)
   (fun pre W=>∃ v,W.heap[Bd+1]?=some (.cells #[v] 43 (0,0))/\bM W B1 v (fM nm D.Gc pre)/\W.heap[Bd]?=some (.cells (Tap D n3 p3 c3) 51 (0,0))/\W.heap[w.heap.size+1]?=some (.cells #[.string nm] 9 (0,0))/\Below w.heap.size w W/\B1<=W.heap.size)
   (fun _ _ _=>False) ?own (fun _ _ _ _ _ h _ _=>h) ?init
   (fun x a' W=>∃ Bx,W.heap[Bx]?=some (.cells (TaN x) 171 (0,0))/\B1<=Bx/\a'=⟨#[.agg (Tao name id seq ext nx tl tp tc Gb.length dp dc F9.length vp vc hl hp hc),.string nm,.pointer (some w.heap.size),.pointer (some (Tac (w.heap.size+1) 0)),.slice none 0 0,.int .i64 0,.pointer (some Bd),.bool true,.pointer (some (Tac (Bd+1) 0)),.pointer (some ⟨Bx,0,none⟩),.tuple #[.agg (Tap D n3 p3 c3),.bool true],.agg (Tao name id seq ext nx tl tp tc Gb.length dp dc F9.length vp vc hl hp hc),.string nm,.tuple #[.agg (Tap D n3 p3 c3),.bool true],.agg (Tap D n3 p3 c3),.bool true,.bool true,.bool false,.agg (Tao name id seq ext nx tl tp tc Gb.length dp dc F9.length vp vc hl hp hc),.func (.func 161) #[] #[.pointer (some Bg)],.agg (TaN x),undef,undef,undef,undef,undef,undef,undef,undef,undef,undef,undef,undef,undef,undef,undef,undef,undef,undef,undef,undef,undef,undef,undef,undef,undef,undef,undef,undef,undef,undef,undef,undef,undef,undef,undef,undef,undef,undef,undef],[]⟩) ?ax ?assign ?body ?done ?stop
  case own =>
   rintro pre W W' row ⟨v,h1,h2,h3,h4,h5,h6⟩ hg hr;exact ⟨v,xu hg hr h1,keepR hg hr h2,xu hg hr h3,xu hg hr h4,h5.grown hg h5.size (fun k e=>by have:=(hr k e).1;omega),cA h6 hg.size⟩
  case init=>exact ⟨.slice none 0 0,HL5.o,bM.nil _ _,HD5.o,QS.o,eK.o,TcC⟩
  case ax =>
   rintro x a' _ W W' row ⟨Bx,h1,h2,h3⟩ hg hr;exact ⟨Bx,xu hg hr h1,h2,h3⟩
  case assign =>
   rintro l pre x W K ⟨v,h1,h2,h3,h4,h5,h6⟩ hK;have HI:=aa (⟨h1,h2,h3,h4,h5,h6⟩:_/\_/\_/\_/\_/\_);clear h1 h2 h3 h4 h5;have HK:=aa hK;clear hK;simp only [FN,List.zip_toArray,List.zip_cons_cons,List.zip_nil_right,List.foldl_toArray,cF,cq,xT,List.set_cons_succ,List.set_cons_zero];gi_wp2
   have hI:=HI.o;have PX:=ae W (.cells (TaN x) 171);refine HK.o _ _ ((KeepsOthers.alloc _ _).from _) (KpT.of_below PX hI.2.2.2.2.1.size) ⟨v,(PX.block _ (aq hI.1)).trans hI.1,World.ownsRow.alloc hI.2.1 _,(PX.block _ (aq hI.2.2.1)).trans hI.2.2.1,(PX.block _ (aq hI.2.2.2.1)).trans hI.2.2.2.1,hI.2.2.2.2.1.alloc hI.2.2.2.2.1.size _,cA h6 PX.size⟩ ⟨W.heap.size,b9 W _,h6,rfl⟩
  case body =>
   rintro l pre x a' W hl ⟨r,hr⟩ ⟨v,h1,h2,h3,h4,h5,h6⟩ ⟨Bx,hx,hBx,rfl⟩ hlt;clear hr r;have x1:=cr hx 1 _ rfl;have x2:=cr hx 2 _ rfl;have x3:=cr hx 3 _ rfl;have d3:=cr h3 3 _ rfl;have n0:=cr h4 0 _ rfl;have l0:=cr h1 0 _ rfl;have mA:=h5.size;have HI:=aa (⟨h1,h2,h3,h4,h5⟩:_/\_/\_/\_/\_);clear h1 h2 h3 h4 h5 hx;by_cases c1:x.disk=nm
   ·have e1:(x.disk.toList == nm.toList)=true:=by rw [c1];simp
    by_cases c2:0<=x.start
    ·by_cases c3:x.start<D.Gc
     ·by_cases c4:0<x.len
      ·have HC:=aa (Bf (ext:=D.Gc) pre ⟨c1,c2,c3,c4⟩);have ac1:=Sm.1;have ac2:=Sm.2;have hw:IntKind.i64.wrap (D.Gc - x.start)=D.Gc - x.start:=dy _ TcC;have ez:=nR nm D.Gc pre;have hlen:(fM nm D.Gc pre).length<=100000:=by omega
       clear ez;obtain ⟨i0,hi,hz0,hz1,hz2⟩:=cy DT;have Vv:=aa hi;clear hi;have Qh:=aa hz0;clear hz0;have Qi:=aa hz1;clear hz1;have N2:=aa hz2;clear hz2;have HC1:=aa c1;clear c1;gi_wp2_with (gi_at_builtin;refine DZ ?_)
       refine aa ?_;refine wpListIn_append_own _ rfl _ _ 43 rfl B1 55 i0 _ 2 16 underlying43 Vv.o Qh.o Qi.o N2.o rfl TcF v (fM nm D.Gc pre).length (bU (fM nm D.Gc pre)) rfl (World.ownsRow.alloc HI.o.2.1 _) ⟨W.heap.size,0,none⟩ 1 1 [.int .i64 x.start,.int .i64 (min x.len (D.Gc - x.start))] rfl rfl (fun j u hu=>by rw [iz,eJ];exact aD rfl (by simpa using hu)) TcQ TcN TcC (by simp only [cW];omega) ?_;intro v' w1 hown' hgrow _;obtain ⟨g',cap',rfl⟩:=ownsRow_succ hown';obtain ⟨i1,i2,i3,i4,i5⟩:=HI.o;have hA:=ae W (.cells #[.int .i64 x.start,.int .i64 (min x.len (D.Gc - x.start))] 55);have Qs:∀ k,v.ownBlock=some k->B1<=k/\∃ cur,W.heap[k]?=some (.cells cur 55 (0,0)):=fun k e=>⟨(fh i2 k e).1,by
        rcases i2.2 with ⟨rfl,_⟩ | ⟨g,cap,cur,rfl,_,hgg,_⟩
        ·cases e
        obtain rfl:g=k:=by injection e
        exact ⟨cur,hgg⟩⟩
       have kb:∀ k,k<W.heap.size->v.ownBlock≠some k->w1.heap[k]?=W.heap[k]?:=fun k hk hn=>(hgrow.block k (cC hk hA.size) (fun e=>hn e.symm)).trans (hA.block k hk);have Uq:w1.heap[Bd+1]?=some (.cells #[v] 43 (0,0)):=(kb _ (aq i1) (fun e=>by have:=(Qs _ e).1;omega)).trans i1;have l1:=cr Uq 0 _ rfl
       have lf:w1.frozen? (Tac (Bd+1) 0)=false:=by simp [World.frozen?,Uq]
       have hw1:W.heap.size<=w1.heap.size:=cA hA.size hgrow.size;have PD:Below w.heap.size W w1:=((bj _ W).alloc mA _).grown hgrow (cA mA hA.size) (fun k e=>by have:=(Qs k e).1;omega);have HST:Hid (∀ u:Value,KeepsFrom W5.heap.size W (w1.setCell (Tac (Bd+1) 0) u)/\KpT w.heap.size W (w1.setCell (Tac (Bd+1) 0) u)/\(w1.setCell (Tac (Bd+1) 0) u).heap[Bd+1]?=some (.cells #[u] 43 (0,0))/\∀ k,k≠Bd+1->(w1.setCell (Tac (Bd+1) 0) u).heap[k]?=w1.heap[k]?):=aa fun u=>by
        have ks:∀ k,k≠Bd+1->(w1.setCell (Tac (Bd+1) 0) u).heap[k]?=w1.heap[k]?:=fun k e=>bw _ _ _ _ e;have hs:(w1.setCell (Tac (Bd+1) 0) u).heap.size=w1.heap.size:=by simp [World.setCell]
        refine ⟨⟨TcC,fun k o hk ho hc=>?_⟩,⟨PD.setCell (p:=⟨Bd+1,0,none⟩) (by show w.heap.size<=Bd+1;omega) u,fun k cs t z e ht=>?_⟩,block_setCell (i:=0) u Uq,ks⟩
        ·have hkl:=(Array.getElem?_eq_some_iff.1 ho).1;have hn1:k≠Bd+1:=fun e=>by
          rw [e,i1] at ho;injection ho with ho;subst ho;cases hc
         have hn2:v.ownBlock≠some k:=fun e=>by
          obtain ⟨_,cur,q⟩:=Qs k e;rw [q] at ho;injection ho with ho;subst ho;cases hc
         exact (ks k hn1).trans ((kb k hkl hn2).trans ho)
        have hn1:k≠Bd+1:=fun e'=>by
         rw [e',i1] at e;injection e with e;injection e with _ e _;subst e;cases ht
        have hn2:v.ownBlock≠some k:=fun e'=>by
         obtain ⟨_,cur,q⟩:=Qs k e';rw [q] at e;injection e with e;injection e with _ e _;subst e;cases ht
        exact (ks k hn1).trans (kb k (aq e) hn2)
       have HOW:=aa hown';clear hown';have ac3:=aa PD;clear PD;have YR:=aa kb;clear kb;have YS:=aa Qs;clear Qs;clear hgrow hA Uq;gi_wp2
       obtain ⟨s1,s2,s3,s4⟩:=HST.o (.slice (some g') ((fM nm D.Gc pre).length+1) cap');refine ⟨s1,s2,_,s3,?_,(s4 _ TcC).trans ((YR.o _ (aq i3) (fun e=>by have:=(YS.o _ e).1;omega)).trans i3),(s4 _ TcC).trans ((YR.o _ (aq i4) (fun e=>by have:=(YS.o _ e).1;omega)).trans i4),i5.trans s2.1,cA h6 s2.1.size⟩;rw [HC.o];unfold bM;rw [gJ,cD];exact aC HOW.o fun k e=>s4 k (by have:=(fh HOW.o k e).1;omega)
      gi_wp2
      exact ⟨KeepsFrom.refl _ _,⟨bj _ _,fun _ _ _ _ _ _=>rfl⟩,v,HI.o.1,by rw [jO pre (fun q=>by have:=q.2.2.2;omega)];exact HI.o.2.1,HI.o.2.2.1,HI.o.2.2.2.1,HI.o.2.2.2.2,h6⟩
     gi_wp2
     exact ⟨KeepsFrom.refl _ _,⟨bj _ _,fun _ _ _ _ _ _=>rfl⟩,v,HI.o.1,by rw [jO pre (fun q=>by have:=q.2.2.1;omega)];exact HI.o.2.1,HI.o.2.2.1,HI.o.2.2.2.1,HI.o.2.2.2.2,h6⟩
    gi_wp2
    exact ⟨KeepsFrom.refl _ _,⟨bj _ _,fun _ _ _ _ _ _=>rfl⟩,v,HI.o.1,by rw [jO pre (fun q=>by have:=q.2.1;omega)];exact HI.o.2.1,HI.o.2.2.1,HI.o.2.2.2.1,HI.o.2.2.2.2,h6⟩
   have e1:=jI c1;gi_wp2
   exact ⟨KeepsFrom.refl _ _,⟨bj _ _,fun _ _ _ _ _ _=>rfl⟩,v,HI.o.1,by rw [jO pre (fun q=>c1 q.1)];exact HI.o.2.1,HI.o.2.2.1,HI.o.2.2.2.1,HI.o.2.2.2.2,h6⟩
  case done =>
   rintro Dd xs W hD rfl ⟨v,h1,h2,h3,h4,h5,h6⟩ hK;have l0:=cr h1 0 _ rfl;have ez:=nR nm D.Gc (pieces F9);have hKl:=(Array.getElem?_eq_some_iff.1 hK).1;have HK:=aa hK;clear hK;have H5:=aa h5;clear h5;have H2:=aa h2;clear h2;clear h1 h3 h4;go_wp2_with fail;refine (tJ (fM nm D.Gc (pieces F9)) v W H2.o.rd (uI Sm.2) TcC).mono ?_;rintro e w7 ⟨v7,x7,rfl,ho7,Ur,hl7,hb7⟩;have hK7:=(hb7.block Dd hKl).trans HK.o;have HO7:=aa ho7;clear ho7;have wk:=aa hb7;clear hb7;have Qm:=aa Ur;clear Ur;go_wp2;refine ⟨TcD,.inl ⟨_,_,rfl,run_takeDeferred hK7,?_⟩⟩;refine ⟨.tuple #[v7,.int .i64 0],by simp [results,Tryz.results69,go_sem],?_⟩;unfold xG;rw [hf];have hw7:=wk.o.size;have YT:=H5.o.size;exact ⟨v7,x7,rfl,ownsRow_putObj (bM.mono HO7.o YT) _ hK7 rfl,Qm.o,hl7,(H5.o.trans (wk.o.mono YT)).trans (belowK_b (w:=w) (bk _) w7 Dd _ _ TcC hK7 rfl rfl)⟩
  case stop =>
   rintro D c pre W _ _ h _;exact h.elim
end Go.Proofs.YtaagglbgohjldaaGreatDoor
namespace Go.Proofs.YtaagglbgohjldaaGreatDoor
open Go.Proofs.Tryz
open Go.RowKit
def zR (Gb:List az)(F9:List ay)(nm:ByteArray)(w:World)(e:Ending)(w':World):Prop :=
 match bH Gb nm with
 | none=>e=.returned (.tuple #[.slice none 0 0,.int .i64 12])/\Below w.heap.size w w'
 | some D=>vD w (fun n=>(0<=n/\n<D.Gc)/\¬ Mem (fM nm D.Gc (pieces F9)) n) (2*((pieces F9).length+1)) e w'
theorem Tez {p:Prop}(h:p:=by simp [dI,nT];omega):p:=h
theorem Di {ok:Nat->Prop}(name:ByteArray)(id seq ext nx:Int)(tp dp vp hp:Option Addr)(tl tc dc vc hl hc:Nat)(Gb:List az)(F9:List ay)(nm:ByteArray)(w:World)(hr:ck aO 7 ok w [.slice dp Gb.length dc] Gb)(hd:Gb.length<=1000)(Sl:∀ D∈Gb,D.tags.length<=1000)(vu:∀ D∈Gb,0<=D.Gc/\D.Gc<=1000000)
  (hv:ck aN 6 ok w [.slice vp F9.length vc] F9) (mb:F9.length<=1000) (ht:qx F9) (CH:∀ p∈pieces F9,0<=p.start/\p.start<=1000000) (hpn:(pieces F9).length<=100000) :
  Calls prog 34 #[.agg (Tao name id seq ext nx tl tp tc Gb.length dp dc F9.length vp vc hl hp hc),.string nm] w (zR Gb F9 nm w):=by
 have hb1:=ae w (.cells (Tao name id seq ext nx tl tp tc Gb.length dp dc F9.length vp vc hl hp hc) 31);have hg1:=b9 w (.cells (Tao name id seq ext nx tl tp tc Gb.length dp dc F9.length vp vc hl hp hc) 31);have HR:=aa hr;clear hr;have HV:=aa hv;clear hv;have HT:=aa ht;clear ht;have Up:=aa Sl;clear Sl;have kj:=aa vu;clear vu;have sY:=aa CH;clear CH;have HG1:=aa hg1;clear hg1;have cU:=aa hb1;clear hb1;go_enter func34,ntmps34
 go_wp2_with fail;generalize hW1:World.alloc w _=W1 at *;clear hW1;refine (CG (ok:=ok) name id seq ext nx tp dp vp hp tl tc dc vc hl hc Gb F9 nm W1 ((ck.moves aO.moves).mv ⟨cU.o.size,fun b hb ho=>⟨ho,cU.o.block b hb⟩⟩ HR.o) hd Up.o kj.o ((ck.moves aN.moves).mv ⟨cU.o.size,fun b hb ho=>⟨ho,cU.o.block b hb⟩⟩ HV.o) mb HT.o sY.o hpn).mono ?_;rintro e w2 hu;unfold xG at hu;cases hf:bH Gb nm with
 | none =>
  rw [hf] at hu;obtain ⟨rfl,hb2⟩:=hu;have cm:=Zbl cU hb2;clear hb2;go_wp2;refine eC (v:=.tuple #[.slice none 0 0,.int .i64 12]) (by simp [results,Tryz.results34,go_sem]) rfl ?_;unfold zR;rw [hf];exact ⟨rfl,cm.o⟩
 | some D =>
  rw [hf] at hu;obtain ⟨v2,x2,rfl,ho2,Sn,hl2,hb2⟩:=hu;have Sm:=kj.o D (eV hf);have hg2:=(hb2.block _ (aq HG1.o)).trans HG1.o;have cm:=Zbl cU hb2;have HO2:=aa ho2;clear ho2;have Qm:=aa Sn;clear Sn;clear hb2;have gL:=cr hg2;obtain ⟨y0,y1,y2,y3,y4,y5,y6,y7,y8⟩:=xr gL;clear gL hg2;go_wp2_with fail;clear y0 y1 y2 y3 y4 y5 y6 y7 y8;refine (vV (ok:=ok) name id seq ext nx tp dp vp hp tl tc dc F9.length vc hl hc Gb nm w2 ((ck.moves aO.moves).mv ⟨cm.o.size,fun b hb ho=>⟨ho,cm.o.block b hb⟩⟩ HR.o) hd Up.o).mono ?_;rintro e w3 ⟨hb3,hm⟩;rw [hf] at hm;obtain ⟨p3,n3,c3,rfl⟩:=hm;have cJ:=Zbl cm hb3;have HO3:=aa (bM.below HO2.o hb3);clear hb3;have hb4:Below w3.heap.size w3 ((w3.alloc (.cells (Tap D n3 p3 c3) 51)).alloc (.cells #[.int .i64 0,.int .i64 D.Gc] 55)):=((bj _ _).alloc (bk _) _).alloc TcD _;have hr4:((w3.alloc (.cells (Tap D n3 p3 c3) 51)).alloc (.cells #[.int .i64 0,.int .i64 D.Gc] 55)).heap[w3.heap.size+1]?=some (.cells #[.int .i64 0,.int .i64 D.Gc] 55 (0,0)):=by
   have:=b9 (w3.alloc (.cells (Tap D n3 p3 c3) 51)) (.cells #[.int .i64 0,.int .i64 D.Gc] 55);rw [cW] at this;exact this
  have WD:=aa hr4;clear hr4;have eI:=Zbl cJ hb4;have HO4:=aa (bM.below HO3.o hb4);clear hb4;have hx2:x2.length<=(pieces F9).length:=cA hl2 (nR _ _ _);go_wp2_with fail;generalize hW4:World.alloc (World.alloc w3 _) _=W4 at *;clear hW4;have YU:xo W4 (.slice (some (Tac (w3.heap.size+1) 0)) 1 1) [(0,D.Gc)]:=⟨_,1,rfl,TcD,TcC,fun _=>⟨_,0,rfl,aq WD.o,fun i p hp=>by
   match i,hp with
   | 0,hp =>
    obtain rfl:(0,D.Gc)=p:=by simpa using hp
    exact ⟨cr WD.o _ _ rfl,cr WD.o _ _ rfl⟩⟩⟩
  refine (DK [(0,D.Gc)] x2 _ v2 W4 YU HO4.o.rd Tez (jC Qm.o (uI Sm.2)) TcD TcC).mono ?_;rintro e w5 ⟨v5,x5,rfl,ho5,Sp,hv5,hl5,hb5⟩;have HO5:=aa ho5;clear ho5;have QS:=aa Sp;clear Sp;have HV5:=aa hv5;clear hv5;have eK:=aa hb5;clear hb5;clear YU;go_wp2;refine eC (v:=.tuple #[v5,.int .i64 0]) (by simp [results,Tryz.results34,go_sem]) rfl ?_;unfold zR;rw [hf];have YV:=eI.o.size;refine ⟨v5,x5,rfl,bM.mono HO5.o YV,QS.o.congr (fun n=>?_),HV5.o,?_,eI.o.trans (eK.o.mono YV)⟩
  ·have hm:kO x2 n=true↔Mem (fM nm D.Gc (pieces F9)) n:=(fe x2 n).trans (Qm.o.2 n);have h0:kO [(0,D.Gc)] n=true↔(0<=n/\n<D.Gc):=by simp [kO]
   simp only [cM,eh,tz,h0];rw [<- hm,Bool.not_eq_true]
  simp only [cS,Ox] at hl5;omega
end Go.Proofs.YtaagglbgohjldaaGreatDoor
