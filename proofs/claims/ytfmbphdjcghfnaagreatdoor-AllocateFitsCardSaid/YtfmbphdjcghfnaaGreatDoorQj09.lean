/- Lemmas: RgT, RpB, RpC, RxB, NeaA, RpD, RwA, AlcA, AlcB, AlcC, FlR, AlcD, AlcE, AlcM, LstA, AlcN, AlcF, AlcG, AlcY, AlcX. -/
import Derived.Test.YtfmbphdjcghfnaaGreatDoorQj08
import Derived.Lib.LazyBuf
set_option maxRecDepth 100000
set_option maxHeartbeats 32000000
set_option linter.all false
open Option renaming getD_some→L2
open List renaming length→Wq,mem_flatMap→BY,getElem?_eq_some_iff→AT,mem_map→As,all_eq_true→An,pairwise_cons→IN,any_eq_true→GP,nil_append→GO,pairwise_iff_getElem→It,mem_filter→DS,cons_append→IT,map_singleton→Lo,mem_cons→DQ
open Array renaming replicate→GW,getElem?_eq_some_iff→F1
open Go.World renaming alloc→AI,cell?→AN,frozen?→BT,setCell→AF
open Go.Value renaming slice→FG
open Go.Value renaming int→Bm,string→By,pointer→SL,bool→Ft,agg→Tk,tuple→Vj
open Go.IntKind renaming i64→Sj,u64→U8
open Go.Obj renaming cells→Sx
open Go.Ending renaming returned→S6
open Option renaming some→Vv,none→VX
open Bool renaming false→VN,true→VR
open Decidable renaming decide→V7
namespace Go.Proofs.YtfmbphdjcghfnaaGreatDoor
variable{gt:Prop}
open Go.Proofs.Tryz
open Go.RowKit Go.Maps Go.Shelf
variable{W W5 w w':H7}{Q:N2}{nm:H6}{RK RW Rr SO Se Sf St TO To UP W0 Wg Wr ZD ZS aE ab ao c0 c1 c10 c2 c3 c5 c6 c7 c8 da dj dq eS pv u v v8:zY}{a:iX}{g:af}{r:aY}{p px:IH}{e n st:Int}{B B' Bl b c cx j k n₀:Nat}{xs ys:wy RU}{args cs l:Array zY}{x y:Nat × H5}{q z:Nat × Nat}{ds:wy Deferred}{pre:wy (Nat × H5)}{o:Option (Nat × H5)}
section
variable {g:af}{s:aB}{r:aY}{p:H5}{ps:wy gy}{k i m:Nat}{x y:RU}{d:az}{e:H6 × Int}{α:Type}{W:H7}{t:TypeId}{xs:wy RU}
structure K5(g:af):Prop where
 gi:GIn g
 hd:qX g=0
 dk:∀(k:Nat) (d:az),g.Gb[k]?=Vv d->pg g k d=0
 vo:∀(k:Nat) (v:ay),g.F9[k]?=Vv v->yH g k v=0
 ex:1<=g.Gd/\g.Gd<=1024
 sg:∀v∈g.F9,∀(k:Nat) (s:aB),v.Gf[k]?=Vv s->bJ g.Gd s (Cw (v.Gf.take k))=VR/\(1<Wq v.Gf->(oO s.kind).several=VR)
 sz:∀v∈g.F9,∀s∈v.Gf,Ah s
 re:∀v∈g.F9,∀s∈v.Gf,mM g v s=0
 si:∀v∈g.F9,∀s∈v.Gf,CX g s=VR
 lb:Cu g
 pf:E9 g
 row:∀(i k:Nat) (p q:gy),k<i->(pieces g.F9)[i]?=Vv p->(pieces g.F9)[k]?=Vv q->p.disk=q.disk->q.start+q.len<=p.start
 pos:∀p∈pieces g.F9,(0<=p.start/\p.start<=1000000)/\1<=p.len/\p.len<=1000000
 thin:∀(i k:Nat) (v x:ay) (s t:aB),k<i->g.F9[i]?=Vv v->g.F9[k]?=Vv x->v.Gf=[s]->x.Gf=[t]->s.kind=6->t.kind=6->s.pool≠t.pool\/s.device≠t.device
 us:∀v∈g.F9,(v.hidden=VR->iJ (Ci g.F9) v.name=1)/\(v.hidden=VN->iJ (Ci g.F9) v.name=yx v.name g.F9/\(yx v.name g.F9=0\/eZ v=5))
 ul:∀v∈g.F9,(kY v).length<=100000
 vs:∀v∈g.F9,Wq v.Gf<=64
def sU.ckIn(h:sU g):K5 g:=by
 have hm:=h.mchk;have hi:=h.gin;obtain⟨h1,h2,h3,h4,h5,h6,h7,h8⟩:=Dg hm;obtain⟨r1,r2⟩:=iT h1;have zc:=mZ h4;refine⟨hi,h1,fun k d hd=>?_,fun k v hv=>?_,⟨r1.2.2.1,r1.2.2.2.1⟩,fun v hv k s hs=>Kv h4 hv hs,zc,Dh h5,fun v hv s hs=>?_,Cg h3 h4,Fb hi hm,JQ h,JN h,
  fun i k v x s t a5 hv hx hs ht h6 a7=>JY h7 a5 hv hx hs ht h6 a7,fun v hv=>KT hm hv,fun v hv=>?_,fun v hv=>(nH h3 v hv).2.2.2⟩
 ·have:=ll (i:=0) h2 k d hd;rwa[eJ]at this
 ·have:=ll (i:=0) h3 k v hv;rwa[eJ]at this
 ·exact Tbx
 have:=lY rQ 8 v.Gf fun s hs=>cA (Cb s) (by have:=(zc v hv s hs).fm.ar;omega)
 have h64:=(nH h3 v hv).2.2.2;unfold kY;omega
def Kg{ext:Int}(k:Int)(w:H7)(hf:bJ ext s st=VR)(h:(oO s.kind).several=VR)(hk:k=s.kind:=by rfl):Calls prog 102 #[Bm Sj k] w fun e w'=>e=S6 (Ft VR)/\Below w.1.size w w':=by
 subst hk;obtain⟨x,hx,-⟩:=DD hf;refine(JF s.kind x w hx).mono ?_;rintro e w' ⟨rfl,rfl⟩;unfold oO at h;rw[hx]at h;exact⟨by rw[show x.several=VR from h],bj _ _⟩
def JH{ext:Int}(h:bJ ext s st=VR):(s.kind=5->Wq s.Ga<=2)/\(s.kind=7->Wq s.Ga<=3)/\(¬s.kind=3->s.log.toList.isEmpty=VR):=by
 obtain⟨x,hx,-,-,⟨-,h2⟩,-,-,hl,-⟩:=DD h;refine⟨fun k=>?_,fun k=>?_,fun k=>?_⟩
 ·rw[k]at hx;injection hx with hx;subst hx;dsimp only at h2;omega
 ·rw[k]at hx;injection hx with hx;subst hx;dsimp only at h2;omega
 have:x.log=VN:=by
  rcases pM hx with q|q|q|q|q|q|q|q|q|q
  all_goals first|exact absurd q k|(rw[q]at hx;injection hx with hx;subst hx;rfl)
 rwa[this,nj]at hl
def Tcm(h:gt:=by
 go_wp2;go_roundw;exact⟨j+1,WQ,Zf,Tp.o⟩;exact Ti):=h
def Tc0(h:gt:=by
 go_wp2;go_roundw;exact⟨i+1,WQ,Zf,Uu.o⟩;exact Ti):=h
def Tb4(h:gt:=by
 ·clear rB QY;exact Tc0):=h
def Tbj(h:gt:=by
 have gL:=mi rB.o;obtain⟨g0,g1,g2,g3,g4,g5,g6,g7,g8⟩:=xr gL;clear gL;clear rB QY hd;go_wp2_with fail;clear g0 g1 g2 g3 g4 g5 g6 g7 g8;refine HCL.o.mono ?_;clear HCL;rintro e w5 ⟨rfl,hb5⟩;have eK:=YS HB hb5;clear hb5;exact TcZ):=h
def Tbt(h:gt:=by
 have Tp:=YS Tq kq;have s1:=mi ((kq.block _ (aq aw6.o)).trans aw6.o) 1 _ lX;clear kq;go_wp2;go_roundw;exact⟨j+1,WQ,Zf,by rw[TK.o],Tp.o⟩;exact Ti):=h
theorem Ko{ok:LN}(g:af)(a:iX)(w:H7)(hg:dN ok w g a)(hc:K5 g):Calls prog 51 #[Tk (Zg g a)] w fun e w'=>e=S6 (Vj #[By ⟨#[]⟩,Bm Sj 0])/\Below w.1.size w w':=by
 have HC:=aa hc;have CD:Wq g.Gb<=1000000:=hc.gi.sz.dl;have mb:Wq g.F9<=1000000:=hc.gi.sz.vl;clear hc;have hA1:=ae w (Sx (Zg g a) 31);have G1:=aa (b9 w (Sx (Zg g a) 31));have a7:=aa (hg.mv (Mv.of hA1));replace hA1:=aa hA1;clear hg;go_enter func51,ntmps51
 go_upto_region 1 with(fail);generalize AI w _=W1 at *;generalize hE:w.1.size=Bg at G1 ⊢;clear hE;obtain⟨g0,g1,g2,g3,g4,g5,g6,g7,g8⟩:=xr (mi G1.o);go_wp2_with fail;clear g0 g1 g2 g3 g4 g5 g6 g7 g8;refine(Kj g a W1 a7.o HC.o.gi.tx).mono ?_;rintro e w2 ⟨rfl,hb2⟩;rw[HC.o.hd];have aY:=aa hb2;have g6:=mi ((hb2.block _ (aq G1.o)).trans G1.o) 6 _ lX;clear hb2;go_wp2;clear g6;go_loopw[5] (fun i wr=>∃k:Nat,k<=Wq g.Gb/\i=Bm Sj k/\Below W1.1.size W1 wr) (fun i _=>Wq g.Gb-(intOf i).toNat)
 exact⟨0,cg _,rfl,aY.o⟩;obtain⟨k,hk,rfl,hB⟩:=hrel;have HB:=aa hB;clear hB;have rB:=Zl HB.o G1;have QY:=aa (a7.o.mv (Mv.of HB.o));by_cases hlt:k<Wq g.Gb
 ·obtain⟨d,hd⟩:=aj g.Gb k hlt;have HCL:=aa (KQ g a k d wr QY.o.Gb HC.o.gi.tx hd (HC.o.dk k d hd) HC.o.ex);exact Tbj
 clear hk;have aZ:=aa HB.o;have g7:=mi rB.o 7 _ lX;have g6:=mi rB.o 6 _ lX;clear QY rB;go_wp2;clear g6 g7 hlt;go_loopw[7] (fun i wr=>∃k:Nat,k<=Wq g.F9/\i=Bm Sj k/\Below W1.1.size W1 wr) (fun i _=>Wq g.F9-(intOf i).toNat)
 exact⟨0,cg _,rfl,aZ.o⟩;obtain⟨k,hk,rfl,hB⟩:=hrel;have HB:=aa hB;clear hB;have rB:=Zl HB.o G1;have QY:=aa (a7.o.mv (Mv.of HB.o));by_cases hlt:k<Wq g.F9
 ·obtain⟨d,hd⟩:=aj g.F9 k hlt;have HCL:=aa (JO g a k d wr QY.o.F9 HC.o.gi.tx hd (HC.o.vo k d hd));exact Tbj
 clear hk;have b8:=aa HB.o;have g7:=mi rB.o 7 _ lX;have g6:=mi rB.o 6 _ lX;clear QY rB;go_wp2;clear g6 g7 hlt;go_loopw[9] (fun z wr=>∃i:Nat,i<=Wq g.F9/\z=Bm Sj i/\Below W1.1.size W1 wr) (fun z _=>Wq g.F9-(intOf z).toNat)
 exact⟨0,cg _,rfl,b8.o⟩;obtain⟨i,hi,rfl,hB⟩:=hrel;have HB:=aa hB;clear hB;have rB:=Zl HB.o G1;have QY:=aa (a7.o.mv (Mv.of HB.o));by_cases hlt:i<Wq g.F9
 ·obtain⟨v,hv⟩:=aj g.F9 i hlt;have Zr:=ct hv;have aD:=HC.o.vs v Zr;obtain⟨b,off,us,yp,_,cX,_,eE,ab⟩:=a7.o.F9.elem hv;obtain⟨tv,sv,rfl,ew,gA⟩:=eE;obtain⟨tp,tc,rfl,_,_⟩:=ew.cap;obtain⟨sp,sc,rfl,_,_⟩:=gA.cap;have Ug:=aa yp;have Zv:=aa gA;have HCV:=aa ab;have My:Hid (aN ok W1 _ v):=aa ⟨_,_,rfl,ew,gA⟩;clear yp ew gA ab;clear hv;have g7:=mi rB.o 7 _ lX;clear rB QY;go_wp2;clear g7;go_loopw[10,11] (fun st z wr=>∃j:Nat,j<=Wq v.Gf/\z=Bm Sj j/\st=Bm Sj (Cw (v.Gf.take j))/\Below W1.1.size W1 wr) (fun _ z _=>Wq v.Gf-(intOf z).toNat)
  exact⟨0,cg _,rfl,rfl,HB.o⟩;clear HB;obtain⟨j,hj,rfl,rfl,hB⟩:=hrel;have Uu:=aa hB;clear hB;have rB:=Zl Uu.o G1;have QY:=aa (a7.o.mv (Mv.of Uu.o));have g7:=mi rB.o 7 _ lX;rw[Ug.o]at g7;have x5:=(cd (a:=⟨b,off+i*6+5,VX⟩) (Uu.o.block b cX)).trans (HCV.o 5 _ lX);by_cases hlt2:j<Wq v.Gf
  ·obtain⟨s,hs⟩:=aj v.Gf j hlt2;have ah:=ct hs;obtain⟨b3,off3,aL,ag,_,PV,_,Tr,a5⟩:=Zv.o.elem hs;have XU:=aa Tr;obtain⟨av,st,rfl,o0,hst⟩:=Tr;obtain⟨ap,ac,rfl,_,_⟩:=o0.cap;obtain⟨eN,eR,rfl,_,_⟩:=hst.cap;have YC:=aa (HC.o.sg v Zr j s hs);have TK:=aa (GI hs);have am:=HC.o.sz v Zr s ah;have hl0:=am.fm.l0;have hl1:=am.fm.l1;have GF:=((HC.o.gi.sz.vz v Zr).seg s ah);have bG:=I7 (l:=v.Gf) (fun s hs=>⟨by have:=(HC.o.sz v Zr s hs).fm.l0;omega,(HC.o.sz v Zr s hs).fm.l1⟩) j;subst ag;have Tl:=Uu.o.block b3 PV;obtain⟨y0,y1,y2,y3,y4,y5,y6,y7,y8,y9,ak⟩:=ak5 Tl a5;clear Tl;generalize ba:Cw (v.Gf.take j)=ST at *;have Fc:=aa (b9 wr (Sx (ZN s ap ac eN eR) 55));have hA:=ae wr (Sx (ZN s ap ac eN eR) 55);replace rB:=Zl hA rB;replace QY:=aa (QY.o.mv (Mv.of hA));have pL:=YS Uu hA;have a8:=aa (bC.moves.mv (Mv.of pL.o) XU.o);clear hA a5 o0 hst am hs ba
   go_upto_region 24 with(fail);clear y0 y1 y2 y3 y4 y5 y6 y7 y8 y9 ak g7 x5;generalize AI wr _=W5 at *;generalize wr.1.size=Bx at Fc ⊢;obtain⟨s0,s1,s2,s3,s4,s5,s6,s7,s8,s9,ai⟩:=IC (mi Fc.o);obtain⟨g0,g1,g2,g3,g4,g5,g6,g7,g8⟩:=xr (mi rB.o);go_wp2_with fail;clear g0 g1 g2 g3 g4 g5 g6 g7 g8 s0 s1 s2 s3 s4 s5 s6 s7 s8 s9 ai;refine(KU g a s ST W5 a8.o YC.o.1 HC.o.ex GF.1 GF.2).mono ?_;rintro e w6 ⟨rfl,sh⟩;replace rB:=Zl sh rB;replace Fc:=Zl sh Fc;have Tq:=YS pL sh;clear sh a8 pL QY;go_upto_region 26 with(fail);have g7:=aG (aq rB.o) (mi rB.o 7 _ lX);rw[Ug.o]at g7;have x5:=aG (cC cX Tq.o.size) ((cd (a:=⟨b,off+i*6+5,VX⟩) (Tq.o.block b cX)).trans (HCV.o 5 _ lX));have s2:=aG (aq Fc.o) (mi Fc.o 2 _ lX);have aw6:=Fc;clear rB Fc;by_cases hm:1<Wq v.Gf
   ·have d1:V7 ((1:Int)<(Wq v.Gf:Int))=VR:=eA WQ;have aE:V7 (1<Wq v.Gf)=VR:=eA hm;have aM:=aa fun q:fo=>Kg s.kind (ext w6 q) YC.o.1 (YC.o.2 hm)
    (refine wp_region_quiet_lit ?_;(repeat(go_big_quiet_step ((go_at_call 102;exact iH (aM.o _)))));(with_reducible refine fR ?_);intro wq ia;have kq:=dY ia;clear ia)
    clear d1 aE aM g7 x5 s2;exact Tbt
   have d1:V7 ((1:Int)<(Wq v.Gf:Int))=VN:=cN WQ;have aE:V7 (1<Wq v.Gf)=VN:=cN hm;(refine wp_region_quiet_lit ?_;(repeat(go_big_quiet_step (fail)));(with_reducible refine fR ?_);intro wq ia;have kq:=dY ia;clear ia)
   clear d1 aE g7 x5 s2;exact Tbt
  exact Tb4
 clear hi;have Ul:=aa HB.o;have g7:=mi rB.o 7 _ lX;have g6:=mi rB.o 6 _ lX;clear QY rB;go_wp2;clear g6 g7 hlt;go_loopw[13] (fun z wr=>∃i:Nat,i<=Wq g.F9/\z=Bm Sj i/\Below W1.1.size W1 wr) (fun z _=>Wq g.F9-(intOf z).toNat)
 exact⟨0,cg _,rfl,Ul.o⟩;obtain⟨i,hi,rfl,hB⟩:=hrel;have HB:=aa hB;clear hB;have rB:=Zl HB.o G1;have QY:=aa (a7.o.mv (Mv.of HB.o));by_cases hlt:i<Wq g.F9
 ·obtain⟨v,hv⟩:=aj g.F9 i hlt;have Zr:=ct hv;have aD:=HC.o.vs v Zr;obtain⟨b,off,us,yp,_,cX,_,eE,ab⟩:=a7.o.F9.elem hv;obtain⟨tv,sv,rfl,ew,gA⟩:=eE;obtain⟨tp,tc,rfl,_,_⟩:=ew.cap;obtain⟨sp,sc,rfl,_,_⟩:=gA.cap;have Ug:=aa yp;have Zv:=aa gA;have HCV:=aa ab;have My:Hid (aN ok W1 _ v):=aa ⟨_,_,rfl,ew,gA⟩;clear yp ew gA ab;have hv0:=hv;clear hv;have g7:=mi rB.o 7 _ lX;clear rB QY;go_wp2;clear g7;go_loopw[14] (fun z wr=>∃j:Nat,j<=Wq v.Gf/\z=Bm Sj j/\Below W1.1.size W1 wr) (fun z _=>Wq v.Gf-(intOf z).toNat)
  exact⟨0,cg _,rfl,HB.o⟩;clear HB;obtain⟨j,hj,rfl,hB⟩:=hrel;have Uu:=aa hB;clear hB;have rB:=Zl Uu.o G1;have QY:=aa (a7.o.mv (Mv.of Uu.o));have g7:=mi rB.o 7 _ lX;rw[Ug.o]at g7;have x5:=(cd (a:=⟨b,off+i*6+5,VX⟩) (Uu.o.block b cX)).trans (HCV.o 5 _ lX);by_cases hlt2:j<Wq v.Gf
  ·obtain⟨s,hs⟩:=aj v.Gf j hlt2;have ah:=ct hs;obtain⟨b3,off3,aL,ag,_,PV,_,Tr,a5⟩:=Zv.o.elem hs;have XU:=aa Tr;obtain⟨av,st,rfl,o0,hst⟩:=Tr;obtain⟨ap,ac,rfl,_,_⟩:=o0.cap;obtain⟨eN,eR,rfl,_,_⟩:=hst.cap;obtain⟨r1,r2,r3,r4,r5⟩:=zZ (HC.o.re v Zr s ah);have HR1:=aa r1;have E3:=aa r2;have bd:=aa r3;have WD:=aa r4;have be:=aa r5;have HFN:=aa (JH (HC.o.sg v Zr j s hs).1);have am:=HC.o.sz v Zr s ah;have hl0:=am.fm.l0;have hl1:=am.fm.l1;have GF:=((HC.o.gi.sz.vz v Zr).seg s ah).1;have bf:v.name.size<=1000000000:=by have:=za (Hz (HC.o.vo i v hv0)).1;omega
   subst ag;have Tl:=Uu.o.block b3 PV;obtain⟨y0,y1,y2,y3,y4,y5,y6,y7,y8,y9,ak⟩:=ak5 Tl a5;clear Tl;have cT:=Uu.o.block b cX;have au:=HCV.o;obtain⟨x0,x1,x2,x3,x4,x5⟩:=sw6 cT au;clear cT au;have bg:=cC cX Uu.o.size;have a9:=cC PV Uu.o.size;have bH:=XU;clear a5 o0 hst am hs r1 r2 r3 r4 r5;go_upto_region 35 with(fail);refine Jo wr Bg b off i (Wq g.F9) a.vc v tp tc b3 off3 j sc s ap eN ac eR ⟨g7,x0,x1,x2,x3,x4,x5,y0,y1,y2,y3,y4,y5,y6,y7,y8,y9,ak⟩ (by
    intro q hq;simp only[dr,cY,dg]at hq;rcases hq with rfl|rfl|rfl
    ·exact aq rB.o
    ·exact bg
    exact a9) hlt hlt2 (aa ?_) (fun _ _ _ _ _ h=>h)
   intro b1 b2 W5 u149 u150 u151 u152 u153 u154 u155 u156 u157 u158 u159 u160 u161 u162 ao aw hk2;clear y0 y1 y2 y3 y4 y5 y6 y7 y8 y9 ak x0 x1 x2 x3 x4 x5 g7;replace rB:=Zl ao rB;replace QY:=aa (QY.o.mv (Mv.of ao));have pL:=YS Uu ao;have a8:=aa (bC.moves.mv (Mv.of pL.o) XU.o);have Wx:=aa (aN.moves.mv (Mv.of pL.o) My.o);have XR:=aa aw;replace hk2:=aa hk2;clear ao aw Uu;obtain⟨g0,g1,g2,g3,g4,g5,g6,g7,g8⟩:=xr (mi rB.o);obtain⟨s0,s1,s2,s3,s4,s5,s6,s7,s8,s9,ai⟩:=IC (mi hk2.o);go_wp2_with fail;clear g0 g1 g2 g3 g4 g5 g6 g7 g8 s0 s1 s2 s3 s4 s5 s6 s7 s8 s9 ai;refine(JM g a s W5 a8.o QY.o HC.o.gi.sz GF HR1.o).mono ?_;rintro e W6 ⟨rfl,hb⟩;replace rB:=Zl hb rB;replace hk2:=Zl hb hk2;replace XR:=Zl hb XR;replace QY:=aa (QY.o.mv (Mv.of hb));replace a8:=aa (bC.moves.mv (Mv.of hb) a8.o);replace Wx:=aa (aN.moves.mv (Mv.of hb) Wx.o);replace pL:=YS pL hb;clear hb;obtain⟨g0,g1,g2,g3,g4,g5,g6,g7,g8⟩:=xr (mi rB.o);obtain⟨s0,s1,s2,s3,s4,s5,s6,s7,s8,s9,ai⟩:=IC (mi hk2.o);go_wp2_with fail;clear g0 g1 g2 g3 g4 g5 g6 g7 g8 s0 s1 s2 s3 s4 s5 s6 s7 s8 s9 ai;refine(JW g a s W6 a8.o QY.o HC.o.gi.sz GF ⟨WQ,WQ⟩ (fun d hd=>by have:=HC.o.pf.de d hd;omega) E3.o).mono ?_;rintro e W7 ⟨rfl,hb⟩;replace rB:=Zl hb rB;replace hk2:=Zl hb hk2;replace XR:=Zl hb XR;replace QY:=aa (QY.o.mv (Mv.of hb));replace a8:=aa (bC.moves.mv (Mv.of hb) a8.o);replace Wx:=aa (aN.moves.mv (Mv.of hb) Wx.o);replace pL:=YS pL hb;clear hb;obtain⟨s0,s1,s2,s3,s4,s5,s6,s7,s8,s9,ai⟩:=IC (mi hk2.o);obtain⟨x0,x1,x2,x3,x4,x5⟩:=sv6 (mi XR.o);go_wp2_with fail;clear s0 s1 s2 s3 s4 s5 s6 s7 s8 s9 ai x0 x1 x2 x3 x4 x5;refine(Ki v s W7 Wx.o a8.o GF bf HFN.o.1 HFN.o.2.1 HFN.o.2.2 bd.o).mono ?_;rintro e W8 ⟨rfl,hb⟩;replace rB:=Zl hb rB;replace hk2:=Zl hb hk2;replace XR:=Zl hb XR;replace QY:=aa (QY.o.mv (Mv.of hb));replace a8:=aa (bC.moves.mv (Mv.of hb) a8.o);replace Wx:=aa (aN.moves.mv (Mv.of hb) Wx.o);replace pL:=YS pL hb;clear hb;obtain⟨g0,g1,g2,g3,g4,g5,g6,g7,g8⟩:=xr (mi rB.o);obtain⟨s0,s1,s2,s3,s4,s5,s6,s7,s8,s9,ai⟩:=IC (mi hk2.o);go_wp2_with fail;clear g0 g1 g2 g3 g4 g5 g6 g7 g8 s0 s1 s2 s3 s4 s5 s6 s7 s8 s9 ai;refine(Kh g a s W8 a8.o QY.o HC.o.gi.sz GF WD.o be.o).mono ?_;rintro e W9 ⟨rfl,hb⟩;replace rB:=Zl hb rB;replace hk2:=Zl hb hk2;replace XR:=Zl hb XR;replace QY:=aa (QY.o.mv (Mv.of hb));replace a8:=aa (bC.moves.mv (Mv.of hb) a8.o);replace Wx:=aa (aN.moves.mv (Mv.of hb) Wx.o);replace pL:=YS pL hb;clear hb;clear rB QY a8 Wx XR hk2;go_wp2;go_roundw;exact⟨j+1,WQ,Zf,pL.o⟩;exact Ti
  exact Tb4
 clear hi;have bh:=aa HB.o;have g7:=mi rB.o 7 _ lX;have g6:=mi rB.o 6 _ lX;clear QY rB;go_wp2;clear g6 g7 hlt;go_loopw[17] (fun z wr=>∃i:Nat,i<=Wq g.F9/\z=Bm Sj i/\Below W1.1.size W1 wr) (fun z _=>Wq g.F9-(intOf z).toNat)
 exact⟨0,cg _,rfl,bh.o⟩;obtain⟨i,hi,rfl,hB⟩:=hrel;have HB:=aa hB;clear hB;have rB:=Zl HB.o G1;have QY:=aa (a7.o.mv (Mv.of HB.o));by_cases hlt:i<Wq g.F9
 ·obtain⟨v,hv⟩:=aj g.F9 i hlt;have Zr:=ct hv;have aD:=HC.o.vs v Zr;obtain⟨b,off,us,yp,_,cX,_,eE,ab⟩:=a7.o.F9.elem hv;obtain⟨tv,sv,rfl,ew,gA⟩:=eE;obtain⟨tp,tc,rfl,_,_⟩:=ew.cap;obtain⟨sp,sc,rfl,_,_⟩:=gA.cap;have Ug:=aa yp;have Zv:=aa gA;have HCV:=aa ab;have My:Hid (aN ok W1 _ v):=aa ⟨_,_,rfl,ew,gA⟩;clear yp ew gA ab;clear hv;have g7:=mi rB.o 7 _ lX;clear rB QY;go_wp2;clear g7;go_loopw[18] (fun z wr=>∃j:Nat,j<=Wq v.Gf/\z=Bm Sj j/\Below W1.1.size W1 wr) (fun z _=>Wq v.Gf-(intOf z).toNat)
  exact⟨0,cg _,rfl,HB.o⟩;clear HB;obtain⟨j,hj,rfl,hB⟩:=hrel;have Uu:=aa hB;clear hB;have rB:=Zl Uu.o G1;have QY:=aa (a7.o.mv (Mv.of Uu.o));have g7:=mi rB.o 7 _ lX;rw[Ug.o]at g7;have x5:=(cd (a:=⟨b,off+i*6+5,VX⟩) (Uu.o.block b cX)).trans (HCV.o 5 _ lX);by_cases hlt2:j<Wq v.Gf
  ·obtain⟨s,hs⟩:=aj v.Gf j hlt2;have ah:=ct hs;obtain⟨b3,off3,aL,ag,_,PV,_,Tr,a5⟩:=Zv.o.elem hs;have XU:=aa Tr;obtain⟨av,st,rfl,o0,hst⟩:=Tr;obtain⟨ap,ac,rfl,_,_⟩:=o0.cap;obtain⟨eN,eR,rfl,_,_⟩:=hst.cap;subst ag;have Tl:=Uu.o.block b3 PV;obtain⟨y0,y1,y2,y3,y4,y5,y6,y7,y8,y9,ak⟩:=ak5 Tl a5;clear Tl;have a9:=cC PV Uu.o.size;have aF:=aa fun q:fo=>Kk g a s (ext wr q) (bC.moves.mv (Mv.of (Uu.o.trans ((dQ wr q).mono Uu.o.size))) XU.o) (QY.o.mv (Mv.of (dQ wr q))) HC.o.gi.sz HC.o.lb HC.o.ex (HC.o.sz v Zr s ah) (HC.o.si v Zr s ah);clear a5 o0 hst hs
   go_upto_region 50 with(fail);clear g7 x5;obtain⟨g0,g1,g2,g3,g4,g5,g6,g7,g8⟩:=Hr rB.o;rw[Ug.o]at g7 aF;have x5:=aG (cC cX Uu.o.size) ((cd (a:=⟨b,off+i*6+5,VX⟩) (Uu.o.block b cX)).trans (HCV.o 5 _ lX));replace y0:=aG a9 y0;replace y1:=aG a9 y1;replace y2:=aG a9 y2;replace y3:=aG a9 y3;replace y4:=aG a9 y4;replace y5:=aG a9 y5;replace y6:=aG a9 y6;replace y7:=aG a9 y7;replace y8:=aG a9 y8;replace y9:=aG a9 y9;replace ak:=aG a9 ak;clear rB QY;(refine aU Yp Yp ?_;(repeat(go_big_quiet_step ((go_at_call 107;exact iH (aF.o _)))));(with_reducible refine fR ?_);intro wq ia;have kq:=dY ia;clear ia)
   have Tp:=YS Uu kq;clear kq g0 g1 g2 g3 g4 g5 g6 g7 g8 x5 y0 y1 y2 y3 y4 y5 y6 y7 y8 y9 ak aF Uu;exact Tcm
  exact Tb4
 clear hi;obtain⟨g0,g1,g2,g3,g4,g5,g6,g7,g8⟩:=xr (mi rB.o);go_wp2_with fail;clear g0 g1 g2 g3 g4 g5 g6 g7 g8 hlt;refine(JD g a wr QY.o.F9 (by have:=HC.o.pf.vl;omega) HC.o.pf.tm (by have:=HC.o.pf.pn;omega) HC.o.row HC.o.pos).mono ?_;rintro e w7 ⟨rfl,rn⟩;have MT:=YS HB rn;have g7:=mi ((rn.block _ (aq rB.o)).trans rB.o) 7 _ lX;clear rn rB QY HB;go_wp2;clear g7;go_loopw[21] (fun z wr=>∃i:Nat,i<=Wq g.F9/\z=Bm Sj i/\Below W1.1.size W1 wr) (fun z _=>Wq g.F9-(intOf z).toNat)
 exact⟨0,cg _,rfl,MT.o⟩;obtain⟨i,hi,rfl,hB⟩:=hrel;have HB:=aa hB;clear hB;have rB:=Zl HB.o G1;have QY:=aa (a7.o.mv (Mv.of HB.o));by_cases hlt:i<Wq g.F9
 ·obtain⟨v,hv⟩:=aj g.F9 i hlt;have Zr:=ct hv;have aD:=HC.o.vs v Zr;obtain⟨b,off,us,yp,_,cX,_,eE,ab⟩:=a7.o.F9.elem hv;obtain⟨tv,sv,rfl,ew,gA⟩:=eE;obtain⟨tp,tc,rfl,_,_⟩:=ew.cap;obtain⟨sp,sc,rfl,_,_⟩:=gA.cap;have Ug:=aa yp;have Zv:=aa gA;have HCV:=aa ab;have My:Hid (aN ok W1 _ v):=aa ⟨_,_,rfl,ew,gA⟩;clear yp ew gA ab;have hv0:=hv;clear hv;have g7:=mi rB.o 7 _ lX;clear rB QY;go_wp2;clear g7;go_loopw[22] (fun z wr=>∃j:Nat,j<=i/\z=Bm Sj j/\Below W1.1.size W1 wr) (fun z _=>i-(intOf z).toNat)
  exact⟨0,cg _,rfl,HB.o⟩;clear HB;obtain⟨j,hj,rfl,hB⟩:=hrel;have Uu:=aa hB;clear hB;by_cases hlt2:j<i
  ·obtain⟨x,hx⟩:=aj g.F9 j WQ;have rB:=Zl Uu.o G1;have g7:=mi rB.o 7 _ lX;rw[Ug.o]at g7;have bi:=ct hx;have Xq:=aa fun s t=>HC.o.thin i j v x s t hlt2 hv0 hx;obtain⟨bx,bI,bJ,aH,_,bK,_,aO,aP⟩:=a7.o.F9.elem hx;rw[Ug.o]at aH;simp only[Option.some.injEq,Addr.mk.injEq,and_true]at aH;obtain⟨rfl,rfl⟩:=aH;have bj:=aa aO;obtain⟨bL,bM,rfl,aQ,aI⟩:=aO;obtain⟨bk,bl,rfl,_,_⟩:=aQ.cap;obtain⟨bm,bp,rfl,_,_⟩:=aI.cap;have bu:=aa aI;have aA:Wq v.Gf<=1000000000:=by omega
   have aB:Wq x.Gf<=1000000000:=by have:=HC.o.vs x bi;omega
   have cT:=Uu.o.block b cX;have au:=HCV.o;obtain⟨y0,y1,y2,y3,y4,y5⟩:=sw6 cT au;obtain⟨z0,z1,z2,z3,z4,z5⟩:=sw6 cT aP;clear cT au;have hbl:=cC cX Uu.o.size;have bw:j<Wq g.F9:=by omega
   clear aP aQ aI hx;go_upto_region 61 with(fail);refine Ju wr Bg b off i (Wq g.F9) a.vc v tp tc sp sc j x bk bm bl bp ⟨g7,y0,y1,y2,y3,y4,y5,z0,z1,z2,z3,z4,z5⟩ (by
    intro q hq;simp only[dr,cY,dg]at hq;rcases hq with rfl|rfl
    ·exact aq rB.o
    exact hbl) hlt bw (aa ?_) (fun _ _ _ _ _ h=>h)
   intro b1 b2 W5 u246 u247 u248 u249 u250 u251 u252 u253 u254 u255 ao aw hk2;clear y0 y1 y2 y3 y4 y5 z0 z1 z2 z3 z4 z5 g7;have pL:=YS Uu ao;have ay:=aa fun q:fo=>aN.moves.mv (Mv.of (pL.o.trans ((dQ W5 q).mono pL.o.size))) My.o;have az:=aa fun q:fo=>aN.moves.mv (Mv.of (pL.o.trans ((dQ W5 q).mono pL.o.size))) bj.o;obtain⟨y0,y1,y2,y3,y4,y5⟩:=I6 aw;obtain⟨z0,z1,z2,z3,z4,z5⟩:=I6 hk2;clear ao aw hk2 Uu rB
   go_upto_region 62 with(fail);by_cases k1:eZ v=6
   ·have e1:(eZ v==6)=VR:=by rw[k1];rfl
    by_cases k2:eZ x=6
    ·have e2:(eZ x==6)=VR:=by rw[k2];rfl
     obtain⟨s,hs1,hs2⟩:=Ja k1;obtain⟨t,aC,ht2⟩:=Ja k2;have hth:=Xq.o s t hs1 aC hs2 ht2;have aR:v.Gf[0]?=Vv s:=by rw[hs1];rfl
     have aS:x.Gf[0]?=Vv t:=by rw[aC];rfl
     have mb:0<Wq v.Gf:=by rw[hs1];exact Nat.succ_pos _
     have vh:0<Wq x.Gf:=by rw[aC];exact Nat.succ_pos _
     obtain⟨bs,os,bO,aT,_,aV,_,bz,aJ⟩:=Zv.o.elem aR;obtain⟨_,_,rfl,_,_⟩:=bz;obtain⟨bt,ot,bP,aW,_,aX,_,bD,aK⟩:=bu.o.elem aS;obtain⟨_,_,rfl,_,_⟩:=bD;have CH:∀m z,W1.cell? ⟨bs,os+m,VX⟩=Vv z->∀q,(ext W5 q).cell? ⟨bs,os+m,VX⟩=Vv z:=fun m z h=>aG (cC aV pL.o.size) ((Sc pL.o aV).trans h);have YL:∀m z,W1.cell? ⟨bt,ot+m,VX⟩=Vv z->∀q,(ext W5 q).cell? ⟨bt,ot+m,VX⟩=Vv z:=fun m z h=>aG (cC aX pL.o.size) ((Sc pL.o aX).trans h);have p7:=CH 7 _ (by have:=aJ 7 _ lX;rwa[Nat.zero_mul,fg]at this);have p8:=CH 8 _ (by have:=aJ 8 _ lX;rwa[Nat.zero_mul,fg]at this);have t7:=YL 7 _ (by have:=aK 7 _ lX;rwa[Nat.zero_mul,fg]at this);have t8:=YL 8 _ (by have:=aK 8 _ lX;rwa[Nat.zero_mul,fg]at this);rw[aT]at y5 ay;rw[aW]at z5 az;clear aJ aK CH YL aR aS hs1 aC hs2 ht2 k1 k2 aT aW
     by_cases Un:s.pool=t.pool
     ·have bE:(s.device==t.device)=VN:=beq_eq_false_iff_ne.2 (hth.resolve_left fun q=>q Un);rw[Un]at p7;clear hth Un;(refine aU Yp Yp ?_;(repeat(go_big_quiet_step ((go_at_call 109;first|exact iH (pq (ay.o _) aA)|exact iH (pq (az.o _) aB)))));(with_reducible refine fR ?_);intro wq ia;have kq:=dY ia;clear ia)
      have Tp:=YS pL kq;clear kq y0 z0 y1 z1 y2 z2 y3 z3 y4 z4 y5 z5 e1 e2 p7 p8 t7 t8 bE;exact Tcm
     have Mu:=jI Un;clear hth Un;(refine aU Yp Yp ?_;(repeat(go_big_quiet_step ((go_at_call 109;first|exact iH (pq (ay.o _) aA)|exact iH (pq (az.o _) aB)))));(with_reducible refine fR ?_);intro wq ia;have kq:=dY ia;clear ia)
     have Tp:=YS pL kq;clear kq y0 z0 y1 z1 y2 z2 y3 z3 y4 z4 y5 z5 e1 e2 p7 p8 t7 t8 Mu;exact Tcm
    have e2:(eZ x==6)=VN:=beq_eq_false_iff_ne.2 k2;clear k1 k2;(refine aU Yp Yp ?_;(repeat(go_big_quiet_step ((go_at_call 109;first|exact iH (pq (ay.o _) aA)|exact iH (pq (az.o _) aB)))));(with_reducible refine fR ?_);intro wq ia;have kq:=dY ia;clear ia)
    have Tp:=YS pL kq;clear kq y0 z0 y1 z1 y2 z2 y3 z3 y4 z4 y5 z5 e1 e2;exact Tcm
   have e1:(eZ v==6)=VN:=beq_eq_false_iff_ne.2 k1;clear k1;(refine aU Yp Yp ?_;(repeat(go_big_quiet_step ((go_at_call 109;first|exact iH (pq (ay.o _) aA)|exact iH (pq (az.o _) aB)))));(with_reducible refine fR ?_);intro wq ia;have kq:=dY ia;clear ia)
   have Tp:=YS pL kq;clear kq y0 z0 y1 z1 y2 z2 y3 z3 y4 z4 y5 z5 e1;exact Tcm
  exact Tc0
 clear hi;have bF:=aa HB.o;have g7:=mi rB.o 7 _ lX;have g6:=mi rB.o 6 _ lX;clear QY rB;go_wp2;clear g6 g7 hlt;go_loopw[25] (fun i wr=>∃k:Nat,k<=Wq g.F9/\i=Bm Sj k/\Below W1.1.size W1 wr) (fun i _=>Wq g.F9-(intOf i).toNat)
 exact⟨0,cg _,rfl,bF.o⟩;obtain⟨k,hk,rfl,hB⟩:=hrel;have HB:=aa hB;clear hB;have rB:=Zl HB.o G1;have QY:=aa (a7.o.mv (Mv.of HB.o));by_cases hlt:k<Wq g.F9
 ·obtain⟨d,hd⟩:=aj g.F9 k hlt;have HCL:=aa (Kr g a k d wr QY.o.F9 (by have:=HC.o.pf.vl;omega) HC.o.gi.sz.vz HC.o.ul hd (HC.o.us d (ct hd)).1 (HC.o.us d (ct hd)).2);exact Tbj
 clear hk;have g7:=mi rB.o 7 _ lX;have TF:=YS hA1 HB.o;clear rB QY;go_wp2;go_ret2;exact⟨rfl,TF.o⟩
def Gy :Dr r=VN↔¬((1<=r.Gi/\r.Gi<=6)/\(1<=r.Gh/\r.Gh<=6)/\r.Gi*r.Gh<=6/\(1<=r.Gc/\r.Gc<=4096)):=by
 rw[<- Bool.not_eq_true];refine not_congr ?_;unfold Dr Ek;simp only[eh,fk];exact⟨fun⟨⟨⟨h1,h2⟩,h3⟩,h4⟩=>⟨h1,h2,h3,h4⟩,fun⟨h1,h2,h3,h4⟩=>⟨⟨⟨h1,h2⟩,h3⟩,h4⟩⟩
def JG :Ek r.Gg 5=VN↔¬(1<=r.Gg/\r.Gg<=5):=by
 rw[<- Bool.not_eq_true];refine not_congr ?_;unfold Ek;simp only[eh,fk]
def GJ(s:H6)(w:H7)(hs:s.size<=9223372036854775807):Calls prog 53 #[By s] w fun e w'=>e=S6 (Ft (mr s))/\Below w.1.size w w' :=
 (Jz s w hs).mono fun _ _ ⟨h,e⟩=>⟨h,e ▸ bj _ _⟩
def TcJ(h:gt:=by
 go_wp2;go_ret;exact⟨cz HE.o.symm,cm.o⟩):=h
def TdE(h:gt:=by rw[Gy];omega):=h
def Jt{ok:LN}(g:af)(a:iX)(r:aY)(w:H7)(hg:dN ok w g a)(hc:K5 g)(hr:dK r):Calls prog 28 #[Tk (Zg g a),Tk (Tam r)] w fun e w'=>e=S6 (Bm Sj (yZ g r))/\Below w.1.size w w':=by
 have Zu:Hid (r.tag.size<=9223372036854775807/\r.sep.size<=9223372036854775807):=aa ⟨hr.t,hr.q⟩;have HC:=aa hc;have HE:Hid (yZ g r=_):=aa (yZ.eq_1 g r);have mb:Wq g.F9<=1000000:=hc.gi.sz.vl;have hA1:=ae w (Sx (Zg g a) 31);have hA2:=ae (w.alloc (Sx (Zg g a) 31)) (Sx (Tam r) 34);have US:=b9 w (Sx (Zg g a) 31);have Tp:=aa (b9 (w.alloc (Sx (Zg g a) 31)) (Sx (Tam r) 34));have ua:=aa ((hA2.block _ (aq US)).trans US);have HB:=aa (hA1.trans (hA2.mono hA1.size));have a9:=aa (hg.mv (Mv.of HB.o));clear hA1 hA2 US hg hc hr;rw[cW]at Tp;go_enter func28,ntmps28
 go_upto_region 1 with(fail);generalize AI (AI w _) _=W1 at *;generalize aj:w.1.size+1=Bq at Tp ⊢;generalize ak:w.1.size=Bg at ua ⊢;clear aj ak;have g0:=xr (mi ua.o);go_wp2_with fail;clear g0;refine(Ko g a W1 a9.o HC.o).mono ?_;rintro e w2 ⟨rfl,hb2⟩;have ah:=Zl hb2 ua;have ab:=Zl hb2 Tp;have ai:=aa (a9.o.mv (Mv.of hb2));have cm:=YS HB hb2;clear hb2 ua Tp a9 HB;obtain⟨q0,q1,q2,q3,q4,q5,q6⟩:=se (mi ab.o);by_cases c1:r.Gi<1
 ·replace HE:=aa (HE.o.trans (aw TdE));have d1:V7 (r.Gi<1)=VR:=eA c1;exact TcJ
 have d1:V7 (r.Gi<1)=VN:=cN c1;by_cases c2:6<r.Gi
 ·replace HE:=aa (HE.o.trans (aw TdE));have d2:V7 (6<r.Gi)=VR:=eA c2;exact TcJ
 have d2:V7 (6<r.Gi)=VN:=cN c2;by_cases c3:r.Gh<1
 ·replace HE:=aa (HE.o.trans (aw TdE));have d3:V7 (r.Gh<1)=VR:=eA c3;exact TcJ
 have d3:V7 (r.Gh<1)=VN:=cN c3;by_cases c4:6<r.Gh
 ·replace HE:=aa (HE.o.trans (aw TdE));have d4:V7 (6<r.Gh)=VR:=eA c4;exact TcJ
 have d4:V7 (6<r.Gh)=VN:=cN c4;have am:0<=r.Gi*r.Gh:=oA WQ WQ;have ao:r.Gi*r.Gh<=6*6:=tW WQ WQ WQ WQ;have au:IntKind.i64.wrap (r.Gi*r.Gh)=r.Gi*r.Gh:=dy _ WQ;by_cases c5:6<r.Gi*r.Gh
 ·replace HE:=aa (HE.o.trans (aw TdE));have d5:V7 (6<r.Gi*r.Gh)=VR:=eA c5;exact TcJ
 have d5:V7 (6<r.Gi*r.Gh)=VN:=cN c5;by_cases c6:r.Gc<1
 ·replace HE:=aa (HE.o.trans (aw TdE));have d6:V7 (r.Gc<1)=VR:=eA c6;exact TcJ
 have d6:V7 (r.Gc<1)=VN:=cN c6;by_cases c7:4096<r.Gc
 ·replace HE:=aa (HE.o.trans (aw TdE));have d7:V7 (4096<r.Gc)=VR:=eA c7;exact TcJ
 have d7:V7 (4096<r.Gc)=VN:=cN c7;replace HE:=aa (HE.o.trans (bh TdE));go_upto_region 6 with(fail);clear d1 d2 d3 d4 d5 d6 d7 c1 c2 c3 c4 c5 c6 c7 am ao au q0 q1 q2;by_cases p1:r.Gg<1
 ·replace HE:=aa (HE.o.trans (aw (by rw[JG];omega)));have d1:V7 (r.Gg<1)=VR:=eA p1;exact TcJ
 have d1:V7 (r.Gg<1)=VN:=cN p1;by_cases p2:5<r.Gg
 ·replace HE:=aa (HE.o.trans (aw (by rw[JG];omega)));have d2:V7 (5<r.Gg)=VR:=eA p2;exact TcJ
 have d2:V7 (5<r.Gg)=VN:=cN p2;replace HE:=aa (HE.o.trans (bh (by rw[JG];omega)));go_upto_region 8 with(fail);clear d1 d2 p1 p2;have g0:=xr (mi ah.o);go_wp2_with fail;clear g0 q3 q4 q5 q6;refine(aj7 g a r.near w2 ai.o.F9 mb).mono ?_;rintro e w3 ⟨u,kk,rfl,hv,C1,hb3⟩;generalize (aM g.F9 r.near).getD eY=x at *;obtain⟨tv,sv,rfl,ew,gA⟩:=hv;obtain⟨tp,tc,rfl,_,_⟩:=ew.cap;obtain⟨sp,sc,rfl,_,_⟩:=gA.cap;have hA:=ae w3 (Sx (ZM x tp tc sp sc) 46);have G2:=hb3.trans (hA.mono hb3.size);have a5:=Zl G2 ab;have eI:=YS cm G2;replace C1:=aa C1;clear ew gA hA G2 hb3 ah ai ab cm;go_upto_region 9 with(fail);generalize AI w3 _=W4 at *;have qL:=mi a5.o;have q3:=qL 3 _ lX;have q5:=qL 5 _ lX;clear qL;have HNB:Hid (xM g r=_):=aa (xM.eq_1 g r);cases hn:r.near.toList.isEmpty with
 |true =>
  rw[hn,aw lX]at HNB;by_cases k2:r.Gg=2
  ·have e2:(r.Gg==2)=VR:=by rw[k2];rfl
   replace HE:=aa (HE.o.trans (aw (by rw[HNB.o,clB,e2];rfl)));go_wp2;go_ret;exact⟨cz HE.o.symm,eI.o⟩
  have e2:(r.Gg==2)=VN:=beq_eq_false_iff_ne.2 k2;by_cases k3:r.Gg=3
  ·have e3:(r.Gg==3)=VR:=by rw[k3];rfl
   replace HE:=aa (HE.o.trans (aw (by rw[HNB.o,clB,e2,e3];rfl)));go_wp2;go_ret;exact⟨cz HE.o.symm,eI.o⟩
  have e3:(r.Gg==3)=VN:=beq_eq_false_iff_ne.2 k3;replace HE:=aa (HE.o.trans (bh (by rw[HNB.o,clB,e2,e3];simp)));clear k2 k3 HNB;go_upto_region 11 with(fail);clear q3 q5 e2 e3 hn C1;have q4:=aG (aq a5.o) (mi a5.o 4 _ lX);have q6:=aG (aq a5.o) (mi a5.o 6 _ lX);have Rt:=aa fun q:fo=>GJ r.tag (ext W4 q) Zu.o.1;have HT2:=aa fun q:fo=>GJ r.sep (ext W4 q) Zu.o.2;have ag:∃b,b=mr r.tag:=⟨_,rfl⟩;have ht2:∃b,b=mr r.sep:=⟨_,rfl⟩;obtain⟨b1,a8⟩:=ag;obtain⟨b2,hb2⟩:=ht2;rw[<- a8]at Rt;rw[<- hb2]at HT2;have a7:Hid ((eu r.tag&&eu r.sep)=((r.tag.toList.isEmpty||b1)&&(r.sep.toList.isEmpty||b2))):=aa (by rw[a8,hb2];rfl);clear a8 hb2;cases h4:r.tag.toList.isEmpty<;>cases h6:r.sep.toList.isEmpty<;>cases b1<;>cases b2
  all_goals
   rw[h4,h6]at a7;(first|(replace HE:=aa (HE.o.trans (aw (a7.o.trans lX))))|(replace HE:=aa (HE.o.trans (bh (by rw[a7.o];decide)))))
   clear a7;(refine wp_region_quiet_lit ?_;(repeat(go_big_quiet_step (((first|(go_at_call 53;exact iH (Rt.o _))|(go_at_call 53;exact iH (HT2.o _)))))));(with_reducible refine fR ?_);intro wq ia;have kq:=dY ia;clear ia)
   have eK:=YS eI kq;clear kq q4 q6;go_wp2;go_ret;exact⟨cz HE.o.symm,eK.o⟩
 |false =>
  rw[hn,bh XN]at HNB;cases hs:(aM g.F9 r.near).isSome with
  |false =>
   rw[hs]at HNB C1;have hk:V7 (kk<0)=VR:=C1.o;replace HE:=aa (HE.o.trans (aw HNB.o));go_wp2;go_ret;exact⟨cz HE.o.symm,eI.o⟩
  |true =>
   rw[hs]at HNB C1;have hk:V7 (kk<0)=VN:=C1.o;replace HE:=aa (HE.o.trans (bh (by rw[HNB.o];simp)));clear HNB;go_upto_region 11 with(fail);clear q3 q5 hn hk C1 hs;have q4:=aG (aq a5.o) (mi a5.o 4 _ lX);have q6:=aG (aq a5.o) (mi a5.o 6 _ lX);have Rt:=aa fun q:fo=>GJ r.tag (ext W4 q) Zu.o.1;have HT2:=aa fun q:fo=>GJ r.sep (ext W4 q) Zu.o.2;have ag:∃b,b=mr r.tag:=⟨_,rfl⟩;have ht2:∃b,b=mr r.sep:=⟨_,rfl⟩;obtain⟨b1,a8⟩:=ag;obtain⟨b2,hb2⟩:=ht2;rw[<- a8]at Rt;rw[<- hb2]at HT2;have a7:Hid ((eu r.tag&&eu r.sep)=((r.tag.toList.isEmpty||b1)&&(r.sep.toList.isEmpty||b2))):=aa (by rw[a8,hb2];rfl);clear a8 hb2;cases h4:r.tag.toList.isEmpty<;>cases h6:r.sep.toList.isEmpty<;>cases b1<;>cases b2
   all_goals
    rw[h4,h6]at a7;(first|(replace HE:=aa (HE.o.trans (aw (a7.o.trans lX))))|(replace HE:=aa (HE.o.trans (bh (by rw[a7.o];decide)))))
    clear a7;(refine wp_region_quiet_lit ?_;(repeat(go_big_quiet_step (((first|(go_at_call 53;exact iH (Rt.o _))|(go_at_call 53;exact iH (HT2.o _)))))));(with_reducible refine fR ?_);intro wq ia;have kq:=dY ia;clear ia)
    have eK:=YS eI kq;clear kq q4 q6;go_wp2;go_ret;exact⟨cz HE.o.symm,eK.o⟩
def Ta7(h:gt:=by
 go_wp2;go_loop[5] (fun i=>∃k:Nat,k<=l.length/\i=Bm Sj k/\bI (l.take k) x=VN) (fun i=>l.length-(intOf i).toNat)
 exact⟨0,cg _,rfl,rfl⟩;obtain⟨k,hk,rfl,hall⟩:=hrel;have cE:=aa hall;clear hall;by_cases hlt:k<l.length
 ·obtain⟨y,hy⟩:=aj l k hlt;obtain⟨b,off,us,rfl,gR,cX,ez,eE,hcv⟩:=HH.o.elem hy;obtain rfl:us=_:=eE;have q0:=hcv 0 _ lX;rw[fp,fg]at q0;have HY:=aa hy;clear hy hcv ez;by_cases hs:y=x
  ·have hb:(y.toList==x.toList)=VR:=by rw[hs];simp
   have HR:Hid (bI l x=VR):=aa (ny.2 (hs ▸ ct HY.o));clear hs;go_wp2;go_ret;exact⟨ah HR.o.symm,rfl⟩
  have hb:=jI hs;have HR:Hid (bI (l.take (k+1)) x=VN):=aa (by rw[take_snoc' l k y HY.o,fU,cE.o,cN hs];rfl);clear hs;exact Tc1
 obtain rfl:k=l.length:=by omega
 rw[cI]at cE;go_wp2;go_ret;exact⟨ah cE.o.symm,rfl⟩):=h
def Ez{ok:LN}(l:QN)(x:H6)(w:H7)(h:ck aF 1 ok w [v] l)(hl:l.length<=1000000):Calls prog 55 #[v,By x] w fun e w'=>e=S6 (Ft (bI l x))/\w=w':=by
 obtain⟨p,cap,rfl,a5,a7⟩:=h.cap;have HH:=aa h;clear h;go_enter func55,ntmps55;exact Ta7
def rC(d:az):RU:=[(0,max d.Gc 0)]
def bM.one(B:Nat)(hB:B<=b)(h:w.1[b]?=Vv (Sx #[Bm Sj p.1,Bm Sj p.2] 49 (0,0))):xo w (FG (Vv b) 1 1) [p] :=
 ⟨_,1,rfl,XN,WQ,fun _=>⟨b,0,rfl,aq h,fun i q hq=>by
  match i,hq with
  |0,hq =>
   obtain rfl:p=q:=by simpa using hq
   exact⟨cr h _ _ lX,cr h _ _ lX⟩
  |i+1,hq=>simp at hq⟩⟩
def LQ(d:az)(tp:IH)(tc:Nat)(w:H7):Calls prog 60 #[Tk (u0 d tp tc)] w fun e w'=>∃v,e=S6 v/\xo w' v (rC d)/\Below w.1.size w w':=by
 have hA:=ae w (Sx (u0 d tp tc) 69);have sX:=aa (b9 w (Sx (u0 d tp tc) 69));replace hA:=aa hA;have HW:Hid (rC d=[(0,max d.Gc 0)]):=aa lX;go_enter func60,ntmps60
 go_upto_region 1 with(fail);generalize RE:AI w _=W1 at *;have Ks:=hA;clear RE hA;have d3:=cr sX.o 3 _ lX;by_cases h:0<=d.Gc
 ·have hm:max d.Gc 0=d.Gc:=by omega
  rw[hm]at HW;go_wp2;go_ret;exact⟨_,rfl,by rw[HW.o];exact bM.one (p:=(0,d.Gc)) 0 (cg _) (b9 W1 _),Ks.o.alloc Ks.o.size _⟩
 have hm:max d.Gc 0=0:=by omega
 rw[hm]at HW;go_wp2;go_ret;exact⟨_,rfl,by rw[HW.o];exact bM.one (p:=(0,0)) 0 (cg _) (b9 W1 _),Ks.o.alloc Ks.o.size _⟩
def Aa(nm:H6)(ps:wy gy):RU:=ps.filterMap fun p=>if p.disk=nm then Vv (p.start,p.len) else VX
def MZ(nm:H6){x:gy}(h:ps[k]?=Vv x):Aa nm (ps.take (k+1))=Aa nm (ps.take k)++if x.disk=nm then [(x.start,x.len)] else []:=by
 rw[take_snoc' ps k x h];unfold Aa;rw[E0];congr 1
 by_cases c:x.disk=nm
 ·rw[aw c];simp[c]
 rw[bh c,List.filterMap_cons,bh c];rfl
def NG(nm:H6)(ps:wy gy):(Aa nm ps).length<=ps.length:=List.length_filterMap_le _ _
def LX{q:H5}(h:q∈Aa nm ps):∃p∈ps,p.disk=nm/\q=(p.start,p.len):=by
 obtain⟨p,hp,e⟩:=List.mem_filterMap.1 h;split at e
 ·rename_i c;exact⟨p,hp,c,(gj e).symm⟩
 cases e
def NZ(hs:∀p∈ps,0<=p.start/\p.start<=1000000)(hl:∀p∈ps,0<=p.len/\p.len<=1000000):dI (Aa nm ps)=VR:=by
 unfold dI;rw[eL];intro q hq;obtain⟨p,hp,_,rfl⟩:=LX hq;have:=hs p hp;have:=hl p hp;simp only[nT,eh,fk];omega
def MS{ext:Int}(hs:∀p∈ps,0<=p.start)(n:Int):(Mem (Aa nm ps) n/\(0<=n/\n<ext))↔Mem (fM nm ext ps) n:=by
 constructor
 ·rintro⟨⟨q,hq,q1,q2⟩,h0,h1⟩;obtain⟨p,hp,hd,rfl⟩:=LX hq;have:=hs p hp;dsimp only at q1 q2;refine⟨(p.start,min p.len (ext-p.start)),List.mem_filterMap.2 ⟨p,hp,aw ⟨hd,WQ,WQ,WQ⟩⟩,q1,?_⟩;dsimp only;omega
 rintro⟨q,hq,q1,q2⟩;obtain⟨p,hp,e⟩:=List.mem_filterMap.1 hq;split at e
 ·rename_i c;obtain rfl:=gj e;dsimp only at q1 q2;exact⟨⟨(p.start,p.len),List.mem_filterMap.2 ⟨p,hp,aw c.1⟩,q1,Tdf⟩,WQ,WQ⟩
 cases e
def Lt(h:0<=d.Gc)(n:Int):Mem (rC d) n↔0<=n/\n<d.Gc:=by
 unfold rC;rw[ko];dsimp only;omega
def Lp(h:0<=d.Gc/\d.Gc<=1000000):dI (rC d)=VR:=by
 simp only[rC,dI,List.all_cons,List.all_nil,Bool.and_true,nT,eh,fk];omega
def rM(Gb:wy az)(S:az->Int->Prop)(N:Nat)(nm:H6)(w:H7)(e:Ending)(w':H7):Prop:=match bH Gb nm with
 |none=>e=S6 (Vj #[FG VX 0 0,Bm Sj 12])/\Below w.1.size w w'
 |some d=>∃v x,e=S6 (Vj #[v,Bm Sj 0])/\bM w' w.1.size v x/\iE x (S d)/\dI x=VR/\x.length<=N/\Below w.1.size w w'
def Nb{ok:LN}(g:af)(a:iX)(nm:H6)(w:H7)(hr:ck aO 7 ok w [FG a.dp (Wq g.Gb) a.dc] g.Gb)(hd:Wq g.Gb<=1000)(vu:∀D∈g.Gb,0<=D.Gc/\D.Gc<=1000000)
  (hv:ck aN 6 ok w [FG a.vp (Wq g.F9) a.vc] g.F9) (mb:Wq g.F9<=1000) (ht:qx g.F9) (CH:∀p∈pieces g.F9,0<=p.start/\p.start<=1000000) (a9:∀p∈pieces g.F9,0<=p.len/\p.len<=1000000) (aF:(pieces g.F9).length<=100000):Calls prog 58 #[Tk (Zg g a),By nm] w (rM g.Gb (fun d n=>Mem (fM nm d.Gc (pieces g.F9)) n) 200002 nm w):=by
 replace hr:=aa hr;replace hv:=aa hv;replace ht:=aa ht;replace CH:=aa CH;replace a9:=aa a9;have kj:=aa vu;clear vu;have ua:=aa (ae w (Sx (Zg g a) 31));have CN:=aa (b9 w (Sx (Zg g a) 31));have gL:=cr CN.o;go_enter func58,ntmps58
 go_upto_region 1 with(fail);generalize RE:AI w _=W1 at *;have g0:=xr gL;clear gL RE;have am:=aa (GK (ok:=ok) g a nm W1 ((ck.moves aO.moves).mv (Mv.of ua.o) hr.o) WQ);go_wp2_with fail;clear g0;refine am.o.mono ?_;clear am;rintro e w2 ⟨u,k,rfl,Qw,a7,hb2⟩;have cm:=YS ua hb2;have pH:=Zl hb2 CN;obtain⟨tv,rfl,ew⟩:=Qw;obtain⟨tp,tc,rfl,_,_⟩:=ew.cap;clear ew hb2;cases hf:bH g.Gb nm with
 |none =>
  rw[hf]at a7;have hk0:k<0:=by simpa using a7
  have ab:Hid (∀e' w',rM g.Gb (fun d n=>Mem (fM nm d.Gc (pieces g.F9)) n) 200002 nm w e' w'=(e'=S6 (Vj #[FG VX 0 0,Bm Sj 12])/\Below w.1.size w w')):=aa fun e' w'=>by unfold rM;rw[hf]
  simp only[Option.getD_none];clear hf a7;generalize gT=d at *;have hA:=ae w2 (Sx (u0 d tp tc) 69);have cJ:=YS cm hA;clear hA;go_wp2;go_ret2;rw[ab.o];exact⟨rfl,cJ.o⟩
 |some d =>
  rw[hf]at a7;have hk0:¬k<0:=by simpa using a7
  have ab:Hid (∀e' w',rM g.Gb (fun d n=>Mem (fM nm d.Gc (pieces g.F9)) n) 200002 nm w e' w'=(∃v x,e'=S6 (Vj #[v,Bm Sj 0])/\bM w' w.1.size v x/\iE x (fun n=>Mem (fM nm d.Gc (pieces g.F9)) n)/\dI x=VR/\x.length<=200002/\Below w.1.size w w')):=aa fun e' w'=>by unfold rM;rw[hf]
  have vu:=kj.o d (eV hf);replace vu:=aa vu;simp only[L2];clear hf a7;have hA:=ae w2 (Sx (u0 d tp tc) 69);have sX:=aa (b9 w2 (Sx (u0 d tp tc) 69));have cJ:=YS cm hA;have LS:=Zl hA pH;clear hA cm pH;go_upto_region 5 with(fail);generalize aG:AI w2 _=W3 at *;generalize aL:w2.1.size=Bd at *;clear aG;have g0:=xr (cr LS.o);have SB:=aa (Hg (ok:=ok) g.name g.id g.seq g.Gd g.next a.tp a.dp a.vp a.hp (Wq g.tags) a.tc (Wq g.Gb) a.dc a.vc (Wq g.history) a.hc g.F9 W3 ((ck.moves aN.moves).mv (Mv.of cJ.o) hv.o) mb ht.o aF);go_wp2_with fail;clear g0;refine SB.o.mono ?_;clear SB;rintro e w4 ⟨pv,rfl,ao,ag⟩;have kf:ck Gt 4 (fun _=>True) w4 [pv] (pieces g.F9):=ao.rd Gt.moves YR (fun _ _ _=>trivial) (fun _ _=>trivial);have eI:=YS cJ ag;have au:=Zl ag sX;clear ao ag;obtain⟨pp,pc,rfl,Wl,Wm⟩:=kf.cap;replace kf:=aa kf;have ah:=eI.o.size;go_upto_region 7 with(fail);go_loopw[8,10] (fun lv i wr=>∃k:Nat,k<=(pieces g.F9).length/\i=Bm Sj k/\bM wr w4.1.size lv (Aa nm ((pieces g.F9).take k))/\Below w4.1.size w4 wr) (fun _ i _=>(pieces g.F9).length-(intOf i).toNat)
  exact⟨0,cg _,rfl,bM.nil _ _,bj _ _⟩;obtain⟨m,hm,rfl,a5,hB⟩:=hrel;replace a5:=aa a5;replace hB:=aa hB;have hbl:=NG nm ((pieces g.F9).take m);rw[ey]at hbl;have aH:=hB.o.size;by_cases hlt:m<(pieces g.F9).length
  ·obtain⟨x,hx⟩:=aj (pieces g.F9) m hlt;obtain⟨b,off,us,yp,gR,cX,ez,eE,av⟩:=kf.o.elem hx;subst yp;obtain rfl:us=_:=eE;have cT:=hB.o.block b cX;have q0:=sw4 cT av;have TK:=aa (MZ nm hx);clear hx av ez cT;by_cases pD:x.disk=nm
   ·have e1:(x.disk.toList==nm.toList)=VR:=by rw[pD];simp
    rw[aw pD]at TK;clear pD;go_wp2_with(at_builtin;refine jg lX lX w4.1.size (Aa nm ((pieces g.F9).take m)) (x.start,x.len) lX ?c1 wr.1.size 1 lX ?c2 ?c3 ?c4 ?c5 ?_)
    case c1=>exact a5.o.below (ae _ _)
    all_goals first|(case c2=>exact aD lX rfl)|(case c3=>exact aD lX rfl)|(case c4=>omega)|(case c5=>simp;omega)|skip
    intro v' w6 Of ay _;have Tq:=aa ((hB.o.alloc aH _).trans ay);replace Of:=aa Of;clear ay;go_wp2;go_roundw;exact⟨m+1,WQ,Zf,by rw[TK.o];exact Of.o,Tq.o⟩;exact Ti
   have e1:=jI pD;rw[bh pD,eM]at TK;clear pD;go_wp2;go_roundw;exact⟨m+1,WQ,Zf,by rw[TK.o];exact a5.o,hB.o⟩;exact Ti
  obtain rfl:m=(pieces g.F9).length:=by omega
  rw[cI]at a5 hbl;have pB:=(hB.o.block _ (aq au.o)).trans au.o;have d0:=se (cr pB);clear pB;have fy:Hid (Below w.1.size w wr):=aa (eI.o.trans (hB.o.mono ah));have az:=aa (LQ d tp tc wr);go_wp2_with fail;clear d0;refine az.o.mono ?_;clear az;rintro e w7 ⟨v7,rfl,aA,rn⟩;have Vk:=YS fy rn;have aB:=aa (Gn (Aa nm (pieces g.F9)) (rC d) 2 (.inr (.inr lX)) _ v7 w7 (a5.o.below rn).rd aA (NZ CH.o a9.o) (Lp vu.o) WQ (by simp[rC]));obtain⟨p7,c7,rfl,_,_,_⟩:=aA;have a8:=Vk.o.size;clear rn;go_wp2_with fail;refine aB.o.mono ?_;clear aB;rintro e w8 ⟨v8,x8,rfl,aC,ai,ak,aI,aE⟩;have aJ:=aa (aC.mono a8);clear aC;replace ai:=aa ai;replace ak:=aa ak;have Ix:=aa (Vk.o.trans (aE.mono a8));clear aE;have aK:x8.length<=200002:=by simp only[rC,cS,ux]at aI;omega
  go_wp2;go_ret2;rw[ab.o];refine⟨v8,x8,rfl,aJ.o,ai.o.congr fun n=>?_,ak.o,aK,Ix.o⟩;rw[<- MS (fun p hp=>(CH.o p hp).1) n];have hw:=Lt vu.o.1 n;simp only[GN,show ¬(2:Int)=0 by omega,show ¬(2:Int)=1 by omega,fY,eh,fe,hw]
def NR{ok:LN}(g:af)(a:iX)(nm:H6)(w:H7)(hr:ck aO 7 ok w [FG a.dp (Wq g.Gb) a.dc] g.Gb)(hd:Wq g.Gb<=1000)(vu:∀D∈g.Gb,0<=D.Gc/\D.Gc<=1000000)
  (hv:ck aN 6 ok w [FG a.vp (Wq g.F9) a.vc] g.F9) (mb:Wq g.F9<=1000) (ht:qx g.F9) (CH:∀p∈pieces g.F9,0<=p.start/\p.start<=1000000) (ah:∀p∈pieces g.F9,0<=p.len/\p.len<=1000000) (av:(pieces g.F9).length<=100000):Calls prog 31 #[Tk (Zg g a),By nm] w (rM g.Gb (fun d n=>(0<=n/\n<d.Gc)/\¬Mem (fM nm d.Gc (pieces g.F9)) n) 400006 nm w):=by
 replace hr:=aa hr;replace hv:=aa hv;have kj:=aa vu;have ua:=aa (ae w (Sx (Zg g a) 31));have CN:=aa (b9 w (Sx (Zg g a) 31));have gL:=cr CN.o;go_enter func31,ntmps31
 go_upto_region 1 with(fail);generalize RE:AI w _=W1 at *;have g0:=xr gL;clear gL RE;have ai:=aa (Nb (ok:=ok) g a nm W1 ((ck.moves aO.moves).mv (Mv.of ua.o) hr.o) hd vu ((ck.moves aN.moves).mv (Mv.of ua.o) hv.o) mb ht CH ah av);clear vu ht CH ah;go_wp2_with fail;clear g0;refine ai.o.mono ?_;clear ai;intro e w2 hu;unfold rM at hu;cases hf:bH g.Gb nm with
 |none =>
  rw[hf]at hu;obtain⟨rfl,hb2⟩:=hu;have a8:Hid (∀e' w',rM g.Gb (fun d n=>(0<=n/\n<d.Gc)/\¬Mem (fM nm d.Gc (pieces g.F9)) n) 400006 nm w e' w'=(e'=S6 (Vj #[FG VX 0 0,Bm Sj 12])/\Below w.1.size w w')):=aa fun e' w'=>by unfold rM;rw[hf]
  have cm:=YS ua hb2;clear hf hb2;go_wp2;go_ret2;rw[a8.o];exact⟨rfl,cm.o⟩
 |some d =>
  rw[hf]at hu;obtain⟨v,x,rfl,a5,UM,I2,vh,hb2⟩:=hu;have a8:Hid (∀e' w',rM g.Gb (fun d n=>(0<=n/\n<d.Gc)/\¬Mem (fM nm d.Gc (pieces g.F9)) n) 400006 nm w e' w'=(∃v x,e'=S6 (Vj #[v,Bm Sj 0])/\bM w' w.1.size v x/\iE x (fun n=>(0<=n/\n<d.Gc)/\¬Mem (fM nm d.Gc (pieces g.F9)) n)/\dI x=VR/\x.length<=400006/\Below w.1.size w w')):=aa fun e' w'=>by unfold rM;rw[hf]
  have vu:=kj.o d (eV hf);replace vu:=aa vu;replace a5:=aa a5;replace UM:=aa UM;replace I2:=aa I2;have cm:=YS ua hb2;have pH:=Zl hb2 CN;obtain⟨px,cx,rfl,_,_,_⟩:=a5.o.rd;clear hb2;have g0:=xr (cr pH.o);have aj:=aa (GK (ok:=ok) g a nm w2 ((ck.moves aO.moves).mv (Mv.of cm.o) hr.o) WQ);go_wp2_with fail;clear g0;refine aj.o.mono ?_;clear aj;rintro e w3 ⟨u,k,rfl,Qw,_,hb3⟩;rw[hf]at Qw;clear hf;obtain⟨tv,rfl,ew⟩:=Qw;obtain⟨tp,tc,rfl,_,_⟩:=ew.cap;simp only[L2];have hA:=ae w3 (Sx (u0 d tp tc) 69);have sX:=aa (b9 w3 (Sx (u0 d tp tc) 69));have a9:=hb3.trans (hA.mono hb3.size);have eI:=YS cm a9;have aw:=aa (a5.o.below a9);clear hA hb3 a9 ew a5;go_upto_region 5 with(fail);generalize ay:AI w3 _=W4 at *;generalize aC:w3.1.size=Bd at *;clear ay;have d0:=se (cr sX.o);have ak:=aa (LQ d tp tc W4);go_wp2_with fail;clear d0;refine ak.o.mono ?_;clear ak;rintro e w7 ⟨v7,rfl,am,rn⟩;have Vk:=YS eI rn;have ao:=aa (Gn (rC d) x 1 (.inr (.inl lX)) v7 _ w7 am (aw.o.below rn).rd (Lp vu.o) I2.o (by simp[rC]) WQ);obtain⟨p7,c7,rfl,_,_,_⟩:=am;have a7:=Vk.o.size;clear rn;go_wp2_with fail;refine ao.o.mono ?_;clear ao;rintro e w8 ⟨v8,x8,rfl,aq,ab,ag,az,au⟩;have aA:=aa (aq.mono a7);clear aq;replace ab:=aa ab;replace ag:=aa ag;have Ix:=aa (Vk.o.trans (au.mono a7));clear au;have aB:x8.length<=400006:=by simp only[rC,cS,ux]at az;omega
  go_wp2;go_ret2;rw[a8.o];refine⟨v8,x8,rfl,aA.o,ab.o.congr fun n=>?_,ag.o,aB,Ix.o⟩;have hw:=Lt vu.o.1 n;have hx:=UM.o.2 n;simp only[GN,show ¬(1:Int)=0 by omega,fY,ej,eh,tz,fe,hw,Bool.eq_false_iff,ne_eq,hx]
def Mq{c4 fs gE ff fb fa mT me ph qe qk mu mw mx nF pr o4 oE oR oS pe qt qv rl rm sE sa sd yk zd zp aj ak am au av aw ay az aA a8:zY}(w:H7)(B Bs b3 off3 k:Nat)(eN:IH)(ac eR:Nat)(s:aB)(a:aR){l:wy aR}
  (hB:B<=w.1.size) (aK:k<Wq s.Ga) (hal:Wq s.Ga<=1000) (hll:l.length<=100000) (On:0<=s.length/\s.length<=1000000) (hst:0<=a.start/\a.start<=1000000)
  (hs:w.1[Bs]?=Vv (Sx (ZN s (Vv ⟨b3,off3,VX⟩) ac eN eR) 55 (0,0))) (hb3:b3<w.1.size) (a9:w.cell? (b3,off3+k*3+1)=Vv (By a.on)) (af:w.cell? (b3,off3+k*3+2)=Vv (Bm Sj a.start))
  (hO:iC B w v8 l)
  (HK:Hid (∀(v':zY) (w':H7) (u53 u54 u55 u56 u57 u58 u59 u60 u61 u62 u63 u64 u65 u66 u67 u68 u69 u70 u71:zY),iC B w' v' (l++[kJ s a])->Below B w w'->w'.1[Bs]?=w.1[Bs]?->Q .normal ⟨#[c0,c1,c2,c3,c4,c5,c6,SL (Vv Bs),v',Bm Sj (k:Int),c10,ZS,ao,Sf,TO,RK,RW,Rr,SO,Se,St,W0,ZD,Wg,Wr,To,UP,aE,ab,eS,da,dj,dq,fs,gE,ff,fb,fa,mT,me,ph,qe,qk,mu,mw,mx,nF,pr,o4,oE,oR,oS,pe,u53,u54,u55,u56,u57,u58,u59,u60,u61,u62,u63,u64,u65,u66,u67,u68,u69,u70,u71,a8],[]⟩ w'))
  (hQ:∀c (a:Act) (d:Tmp) (v:zY) w,Q (.panic c) (a.put (Vv d) v) w->Q (.panic c) a w) :
  (Ai Tryz.f29 12).wp prog Q ⟨#[c0,c1,c2,c3,c4,c5,c6,SL (Vv Bs),v8,Bm Sj (k:Int),c10,ZS,ao,Sf,TO,RK,RW,Rr,SO,Se,St,W0,ZD,Wg,Wr,To,UP,aE,ab,eS,da,dj,dq,fs,gE,ff,fb,fa,mT,me,ph,qe,qk,mu,mw,mx,nF,pr,o4,oE,oR,oS,pe,qt,qv,rl,rm,sE,sa,sd,yk,zd,zp,aj,ak,am,au,av,aw,ay,az,aA,a8],[]⟩ w:=by
 conv=>arg 2;whnf
 have GF:=aq hs;have sL:∀(j:Nat) (z:zY),[Bm Sj s.start,Bm Sj s.length,Bm Sj s.kind,FG (Vv (b3,off3)) (Wq s.Ga) ac,Bm Sj s.chunk,FG eN (Wq s.stale) eR,By s.log,By s.pool,Bm Sj s.device,Bm Sj s.mode,Bm Sj s.done][j]?=Vv z->∀q:fo,(ext w q).cell? ⟨Bs,j,VX⟩=Vv z:=fun j z hz=>aG GF (by
  simp only[AN,hs];simpa using hz)
 have s0:=IC sL;have a1:=aG hb3 a9;have a2:=aG hb3 af;replace hO:=aa hO;replace hs:=aa hs;have a5:=On.1;have a7:=On.2;have aF:=hst.1;have aH:=hst.2;have aL:0<=iB s.kind s.length (Wq s.Ga):=by
  unfold iB;split
  ·exact lz a5 WQ
  exact a5
 have aM:iB s.kind s.length (Wq s.Ga)<=1000000:=by
  unfold iB;split
  ·exact Int.le_trans (mS _ a5) a7
  exact a7
 obtain⟨i0,hi,du,R0,RC⟩:=gg kL;replace hi:=aa hi;replace du:=aa du;replace R0:=aa R0;replace RC:=aa RC;have aI:Hid (kJ s a=⟨VN,a.on,a.start+iB s.kind s.length (Wq s.Ga)⟩):=aa lX;have Ss:=aa (fun w':H7=>Im s.start s.length s.kind s.chunk s.device s.mode s.done (Vv ⟨b3,off3,VX⟩) eN (Wq s.Ga) ac (Wq s.stale) eR s.log s.pool w' a5 WQ WQ);generalize aJ:iB s.kind s.length (Wq s.Ga)=ex at *;have aN:IntKind.i64.wrap (a.start+ex)=a.start+ex:=dy _ WQ;clear sL a9 af On hst aJ;(refine lG 16 Yp lX rfl Yp Yp (fun _ _ _ _ h=>hQ _ _ _ _ _ h) Tec ?_;simp only[xi,iv,cQ,cL])
 repeat(go_big_quiet_step ((go_at_call 54;exact iH (Ss.o _))))
 with_reducible refine fR ?_
 intro wq ia;have kq:=dY ia;clear ia s0 a1 a2 Ss;have ag:=hO.o.below kq;have G2:=ae wq (Sx #[VN,a.on,Bm Sj (a.start+ex)] 53);have ah:=ag.below G2;have ai:=aa ah;have pL:=aa G2;have Tp:=aa kq;have PF:=cA hB kq.size;clear ag ah G2 kq;go_wp2_with(at_builtin;refine dX aQ.moves underlying47 hi.o du.o R0.o RC.o lX YR YR lX lX B (fun _=>False) v8 l ⟨VN,a.on,a.start+ex⟩ lX ai.o wq.1.size 1 [Ft VN,By a.on,Bm Sj (a.start+ex)] lX rfl rfl ?d3 ?d4 ?d5 ?d6 (fun _ _ f=>f) ?_)
 all_goals first|(case d3=>(simp[Value.oneCell']))|(case d4=>(intro j y hy;exact aD lX Tdr))|(case d5=>omega)|(case d6=>omega)|(case d6=>simp only[cW];omega)|skip
 intro gb cap w3 hp;have CT:∀j,j<w.1.size->v8.ownBlock≠Vv j->w3.1[j]?=w.1[j]?:=fun j hj hne=>(hp.grown.block j (cC hj (cA Tp.o.size pL.o.size)) (fun e=>hne e.symm)).trans ((pL.o.block j (cC hj Tp.o.size)).trans (Tp.o.block j hj));have jn:Below B w w3:=((Tp.o.mono hB).trans (pL.o.mono PF)).grown hp.grown Tep (fun j e=>(ai.o.ge e).1);have hS:=CT Bs GF (hO.o.notSeg hs.o);have Qt:=hp.own;rw[<- aI.o]at Qt;have HOW:=aa Qt;have PG:=aa jn;replace hS:=aa hS;clear hp Qt jn CT;go_wp2;exact HK.o _ _ _ _ _ _ _ _ _ _ _ _ _ _ _ _ _ _ _ _ _ HOW.o PG.o hS.o
def ND{ok:LN}(g:af)(a:iX)(nm:H6)(w:H7)(hr:ck aN 6 ok w [FG a.vp (Wq g.F9) a.vc] g.F9)(mb:Wq g.F9<=1000000)(ht:qx g.F9)(CH:∀v∈g.F9,∀s∈v.Gf,fP s->∀a∈s.Ga,0<=a.start/\a.start<=1000000):Calls prog 29 #[Tk (Zg g a),By nm] w (D7 w (jE g nm)):=by
 replace hr:=aa hr;have hA1:=ae w (Sx (Zg g a) 31);replace hA1:=aa hA1;have CN:=aa (b9 w (Sx (Zg g a) 31));have gL:=cr CN.o;go_enter func29,ntmps29
 go_upto_region 1 with(fail);generalize RE:AI w _=W1 at *;have g0:=xr gL;clear gL RE;have HCV:=aa (aj7 (ok:=fun b=>ok b/\b<w.1.size) g a nm W1 ((ck.moves aN.moves).mv ⟨hA1.o.size,fun b hb ho=>⟨⟨ho,hb⟩,hA1.o.block b hb⟩⟩ hr.o) mb);go_wp2_with fail;clear g0;refine HCV.o.mono ?_;clear HCV;rintro e w2 ⟨u,kx,rfl,sA,XO,hb2⟩;have eE:((aM g.F9 nm).getD eY).Gf.length<=1000/\∀s∈((aM g.F9 nm).getD eY).Gf,((0<=s.length/\s.length<=1000000)/\Wq s.Ga<=1000/\(fP s->∀a∈s.Ga,a.vol=VN))/\(fP s->∀a∈s.Ga,0<=a.start/\a.start<=1000000):=by
  exact TbT
 have XU:=aa eE.2;have mb:=eE.1;have PH:Hid (jE g nm=oZ ((aM g.F9 nm).getD eY).Gf):=aa lX;have Ty:Hid ((aM g.F9 nm).isSome=VN->((aM g.F9 nm).getD eY).Gf.length=0):=aa fun q=>by
  cases hf:aM g.F9 nm with
  |none=>rfl
  |some v=>rw[hf]at q;cases q
 generalize (aM g.F9 nm).isSome=YW at *;generalize hv:(aM g.F9 nm).getD eY=v at *;have cm:=YS hA1 hb2;obtain⟨tv,sv,rfl,ew,gA⟩:=sA;obtain⟨tp,tc,rfl,_,_⟩:=ew.cap;obtain⟨sp,sc,rfl,ak,am⟩:=gA.cap;clear ew hb2 hv eE ht CH;have hA:=ae w2 (Sx (ZM v tp tc sp sc) 46);have zv:=aa (b9 w2 (Sx (ZM v tp tc sp sc) 46));have cJ:=YS cm hA;have Zv:=aa ((ck.moves bC.moves).mv (Mv.of hA) gA);clear gA hA cm;go_upto_region 2 with(fail);generalize ao:AI w2 _=W3 at *;generalize aC:w2.1.size=Bv at *;clear ao;have v5:=cr zv.o 5 _ lX;by_cases h0:Wq v.Gf=0
 ·have HE:Hid (oZ v.Gf=[]):=aa (yg (fX h0));clear Ty XO;cases ab:V7 (kx<0)with
  |true =>
   go_wp2;go_ret;exact⟨_,rfl,TeJ,cJ.o⟩
  |false =>
   go_wp2;go_ret;exact⟨_,rfl,TeJ,cJ.o⟩
 have ab:V7 (kx<0)=VN:=by
  rw[XO];cases YW with
  |true=>rfl
  |false=>exact absurd (Ty.o lX) h0
 clear Ty XO;obtain⟨s,hs⟩:=aj v.Gf (Wq v.Gf-1) WQ;have HE:=aa (Dn WQ hs);obtain⟨b,off,us,yp,gR,cX,ez,eE,ag⟩:=Zv.o.elem hs;subst yp;have Su:=aa (XU.o s (ct hs));obtain⟨av,Rn,rfl,o0,hst⟩:=eE;obtain⟨ap,ac,rfl,_,_⟩:=o0.cap;obtain⟨eN,eR,rfl,_,_⟩:=hst.cap;have cT:W3.1[b]?=W3.1[b]?:=rfl;obtain⟨q0,q1,q2,q3,q4,q5,q6,q7,q8,q9,au⟩:=ak5 cT ag;have YX:((Wq v.Gf:Int)-1)=((Wq v.Gf-1:Nat):Int):=by omega
 clear hs ag ez cT hst XU;have hA:=ae W3 (Sx (ZN s ap ac eN eR) 55);have lj:=aa (b9 W3 (Sx (ZN s ap ac eN eR) 55));have eI:=YS cJ hA;have ya:=aa ((ck.moves aQ.moves).mv (Mv.of hA) o0);clear o0 hA cJ;go_upto_region 4 with(fail);go_upto_region 5 with(fail);generalize ay:AI W3 _=W4 at *;generalize aD:W3.1.size=Bs at *;clear ay q0 q1 q2 q3 q4 q5 q6 q7 q8 q9 au v5;have s2:=cr lj.o 2 _ lX;by_cases hk:s.kind=1\/s.kind=2
 ·have qT:Hid (jE g nm=qN s):=aa (by rw[PH.o,HE.o,aw hk]);have G0:fP s:=by rcases hk with q|q;exact .inl q;exact .inr (.inl q)
  have HVL:=aa (Su.o.1.2.2 G0);have sY:=aa (Su.o.2 G0);have hal:=Su.o.1.2.1;have HLN:=aa Su.o.1.1;clear HE PH Su G0;have key:(s.kind != 1)=VN\/((s.kind != 1)=VR/\(s.kind != 2)=VN):=by
   exact Tcv
  clear hk;have Zu:Hid (w.1.size<=W4.1.size):=aa eI.o.size;rcases key with n1|⟨n1,n2⟩<;>(
   (go_upto_region 7 with(fail))
   (try clear n2)
   clear n1 s2 YX ab;(go_upto_region 8 with(fail))
   (go_upto_region 9 with(fail))
   (go_loopw[8,9] (fun lv i wr=>∃k:Nat,k<=Wq s.Ga/\i=Bm Sj k/\iC W4.1.size wr lv ((s.Ga.take k).map (kJ s))/\Below W4.1.size W4 wr) (fun _ i _=>Wq s.Ga-(intOf i).toNat))
   exact⟨0,cg _,rfl,iC.nil _ _,bj _ _⟩;obtain⟨k,hk,rfl,a5,hB⟩:=hrel;replace a5:=aa a5;replace hB:=aa hB;have ah:=(hB.o.block _ (aq lj.o)).trans lj.o;have s3:=cr ah 3 _ lX;clear ah;by_cases hlt:k<Wq s.Ga
   ·obtain⟨x,hx⟩:=aj s.Ga k hlt;obtain⟨b3,off3,az,a8,B7,PV,pT,Tr,a7⟩:=ya.o.elem hx;subst a8;obtain rfl:az=_:=Tr;have Tl:wr.1[b3]?=W4.1[b3]?:=hB.o.block b3 PV;obtain⟨q0,q1,q2⟩:=Mn Tl a7;have HTS:Hid ((s.Ga.take (k+1)).map (kJ s)=(s.Ga.take k).map (kJ s)++[kJ s x]):=aa (by rw[take_snoc' s.Ga k x hx,gl];rfl);have pS:=HVL.o x (ct hx);have hst:=sY.o x (ct hx);clear hx a7 pT Tl;rw[pS]at q0;have mA:=hB.o.size;go_upto_region 11 with(fail);go_upto_region 12 with(fail);clear q0;refine Mq wr W4.1.size Bs b3 off3 k eN ac eR s x mA hlt hal (by rw[fW,ey];omega) HLN.o hst ((hB.o.block _ (aq lj.o)).trans lj.o) (cC PV mA) q1 q2 a5.o (aa ?_) ?hQ
    case hQ=>exact fun _ _ _ _ _ h=>h
    intro v' w' u53 u54 u55 u56 u57 u58 u59 u60 u61 u62 u63 u64 u65 u66 u67 u68 u69 u70 u71 a9 ai aA;replace a9:=aa a9;have Ks:=aa (hB.o.trans ai);clear ai aA q1 q2 s3;go_wp2;go_roundw;exact⟨k+1,WQ,Zf,by rw[HTS.o];exact a9.o,Ks.o⟩;exact Ti
   obtain rfl:k=Wq s.Ga:=by omega
   rw[cI]at a5;have aB:Hid ((jE g nm).map (fun x=>(⟨VN,x.1,x.2⟩:aR))=s.Ga.map (kJ s)):=aa Tfb;go_wp2;go_ret;exact⟨_,rfl,by rw[aB.o];exact a5.o.mono Zu.o,eI.o.trans (hB.o.mono Zu.o)⟩)
 exact Tbp
def LG:∀(x:RU),(∀p∈x,1<=p.2)->(x.length:Int)<=ze x
 |[],_=>by simp[ze]
 |p :: x,h=>by
  have h1:=LG x (fun q hq=>h q (kn _ hq));have h2:=h p cG;simp only[ze,iu,List.sum_cons,cS]at h1 ⊢;omega
def MB{vs:wy ay}(h:qx vs):∀p∈pieces vs,0<=p.len/\p.len<=1000000:=fun p hp=>by
 obtain⟨v,hv,hp⟩:=BY.1 hp;obtain⟨s,hs,hp⟩:=BY.1 hp;obtain⟨_,a,ha,rfl⟩:=gK hp;have h1:=((h v hv).2 s hs).1;have h2:=zV (k:=s.kind) (n:=Wq s.Ga) h1.1;exact⟨h2.1,Int.le_trans h2.2 h1.2⟩
def nrL(es:wy (H6 × Int))(nm:H6)(f:H5):RU:=es.flatMap fun e=>if e.1=nm/\e.2=f.1 then [f] else []
def Le(g:af)(r:aY)(d:az)(y:RU):Prop:=if nD g r d=VR then ∃x,iE x (xy g d)/\dI x=VR/\y=(if uM r=VR then x.flatMap (nrL (jE g r.near) d.name) else x) else y=[]
def RPX(g:af)(r:aY)(ys:wy RU):Prop:=∀(i:Nat) (d:az) (y:RU),g.Gb[i]?=Vv d->ys[i]?=Vv y->Le g r d y/\y.length<=600000
def RPX.snoc(h:RPX g r ys)(hd:g.Gb[ys.length]?=Vv d)(h1:Le g r d y)(h3:y.length<=600000):RPX g r (ys++[y]):=by
 intro i d' z hd' hz;by_cases hi:i<ys.length
 ·rw[Fo hi]at hz;exact h i d' z hd' hz
 have hl:=(AT.1 hz).1;rw[cD,A4]at hl;obtain rfl:i=ys.length:=by omega
 rw[hd]at hd';obtain rfl:=gj hd';obtain rfl:y=z:=by simpa using hz
 exact⟨h1,h3⟩
def OE{es:wy (H6 × Int)}(nm:H6)(f:H5)(h:es[j]?=Vv e):nrL (es.take (j+1)) nm f=nrL (es.take j) nm f++(if e.1=nm/\e.2=f.1 then [f] else []):=by
 rw[take_snoc' es j e h];simp[nrL]
def Nh(es:wy (H6 × Int))(nm:H6)(f:H5):(nrL es nm f).length<=es.length*1:=lY _ _ _ fun e _=>by split<;>simp
def OW{β:Type}{l:wy α}{x:α}(f:α->wy β)(h:l[k]?=Vv x):(l.take (k+1)).flatMap f=(l.take k).flatMap f++f x:=by
 rw[take_snoc' l k x h];simp
def NP(hc:K5 g)(hd:g.Gb[i]?=Vv d)(he:e∈jE g nm)(hn:e.1=d.name):Mem (fM d.name d.Gc (pieces g.F9)) (e.2-1):=by
 unfold jE at he;cases hf:aM g.F9 nm with
 |none =>
  rw[hf]at he;simp[eY,oZ]at he
 |some v =>
  have hv:=eV hf;rw[hf,L2]at he;unfold oZ at he;split at he
  ·rename_i s hs;have a7:=mem_of_getLast? hs;split at he
   ·rename_i hk;obtain⟨a,ha,rfl⟩:=As.1 he;obtain⟨k,XO⟩:=fc a7;obtain⟨x,-,-,⟨hl,-⟩,-,-,-,-,-,-,-,-,-,hm,-⟩:=DD (hc.sg v hv k s XO).1;have a9:fP s:=by unfold fP;omega
    have aa:=(hc.pf.tm v hv).2 s a7;have B4:=aa.2.2 a9 a ha;have a5:=hc.re v hv s a7;have a8:fI g s a=VR:=by
     unfold mM at a5;split at a5
     ·cases a5
     split at a5
     ·cases a5
     rename_i hall;have hall:s.Ga.all (fI g s)=VR:=by simpa using hall
     exact An.1 hall a ha
    have N4:bH g.Gb a.on=Vv d:=by
     rw[show a.on=d.name from hn];exact hc.pf.df i d hd
    unfold fI at a8;rw[B4,N4,nj,eh,eh,fk,fk,fk,L2]at a8;have ab:1<=iB s.kind s.length (Wq s.Ga):=by
     unfold iB;split
     ·rename_i hk2;have h0:=hm hk2.1;have hq:=Int.mul_ediv_add_emod s.length (Wq s.Ga);rw[h0,Int.add_zero]at hq;refine Decidable.byContradiction fun hlt=>?_;have h1:s.length/(Wq s.Ga:Int)<=0:=by omega
      have h2:(Wq s.Ga:Int)*(s.length/(Wq s.Ga:Int))<=0:=Int.mul_nonpos_of_nonneg_of_nonpos WQ h1;omega
     exact hl
    refine⟨_,zz1.2 ⟨aJ v.name s a,BY.2 ⟨v,hv,BY.2 ⟨s,a7,by unfold aK;rw[aw a9];exact As.2 ⟨a,ha,rfl⟩⟩⟩,⟨hn,a8.1.1,?_,?_⟩,rfl⟩,?_,?_⟩
    ·simp only[aJ];omega
    ·simp only[aJ];omega
    ·simp only[aJ];omega
    simp only[aJ];omega
   simp at he
  simp at he
def MR(hc:K5 g)(hd:g.Gb[i]?=Vv d)(he:e∈jE g nm)(hn:e.1=d.name)(hx:iE x (xy g d)){r:H5}(hr:r∈x)(h1:r.1<=e.2)(h2:e.2<r.1+r.2):r.1=e.2:=by
 refine Decidable.byContradiction fun hne=>?_;have hf:=(hx.2 (e.2-1)).1 ⟨r,hr,WQ,WQ⟩;exact hf.2 (NP hc hd he hn)
def MJ{f:H5}:∀ {E:wy (H6 × Int)},E.Pairwise (fun p q=>p.1=nm->q.1=nm->p.2<q.2)->nrL E nm f=if(E.any fun e=>V7 (e.1=nm)&&V7 (e.2=f.1))=VR then [f] else []
 |[],_=>rfl
 |e :: E,h=>by
  obtain⟨h1,h2⟩:=IN.1 h;have ih:=MJ h2 (f:=f);rw[show nrL (e :: E) nm f=(if e.1=nm/\e.2=f.1 then [f] else [])++nrL E nm f from by simp[nrL],List.any_cons];by_cases hc:e.1=nm/\e.2=f.1
  ·rw[aw hc,aw (by simp[hc.1,hc.2])];have:nrL E nm f=[]:=by
    rw[ih,bh];intro ha;obtain⟨q,hq,hp⟩:=GP.1 ha;rw[eh,fk,fk]at hp;have:=h1 q hq hc.1 hp.1;omega
   rw[this];rfl
  rw[bh hc,GO,ih];have:(V7 (e.1=nm)&&V7 (e.2=f.1))=VN:=by
   rw[<- Bool.not_eq_true,eh,fk,fk];exact hc
  rw[this,nj]
def GY{F:α->wy α}{p:α->Bool}:∀ {l:wy α},(∀f∈l,F f=if p f=VR then [f] else [])->l.flatMap F=l.filter p
 |[],_=>rfl
 |f :: l,h=>by
  rw[lB,h f cG,GY fun q hq=>h q (kn _ hq),List.filter_cons];split<;>rfl
def MQ(hc:K5 g)(nm dn:H6):(jE g nm).Pairwise (fun p q=>p.1=dn->q.1=dn->p.2<q.2):=by
 have a5:(pieces g.F9).Pairwise (fun q p=>p.disk=q.disk->q.start+q.len<=p.start):=by
  rw[It];intro i j hi hj hij;exact hc.row j i _ _ hij (lO hj) (lO hi)
 unfold jE;cases hf:aM g.F9 nm with
 |none=>simp[eY,oZ]
 |some v =>
  have hv:=eV hf;rw[L2];unfold oZ;split
  ·rename_i s hs;have a7:=mem_of_getLast? hs;split
   ·rename_i hk;obtain⟨k,XO⟩:=fc a7;obtain⟨x,-,-,⟨hl,-⟩,-,-,-,-,-,-,-,-,-,hm,-⟩:=DD (hc.sg v hv k s XO).1;have a8:fP s:=by unfold fP;omega
    have h1:(aK v.name s).Pairwise (fun q p=>p.disk=q.disk->q.start+q.len<=p.start):=by
     have h2:=(List.pairwise_flatMap.1 a5).1 v hv;exact(List.pairwise_flatMap.1 h2).1 s a7
    unfold aK at h1;rw[aw a8,List.pairwise_map]at h1;unfold qN;rw[List.pairwise_map];refine h1.imp_of_mem fun {a b} ha _ h2 h3 h4=>?_;have h5:=h2 (by show b.on=a.on;rw[show a.on=dn from h3,show b.on=dn from h4])
    have a9:1<=iB s.kind s.length (Wq s.Ga):=by
     have aa:0<Wq s.Ga:=List.length_pos_of_mem ha;unfold iB;split
     ·rename_i hk2;have h0:=hm hk2.1;have hq:=Int.mul_ediv_add_emod s.length (Wq s.Ga);rw[h0,Int.add_zero]at hq;refine Decidable.byContradiction fun hlt=>?_;have h1:s.length/(Wq s.Ga:Int)<=0:=by omega
      have h2:(Wq s.Ga:Int)*(s.length/(Wq s.Ga:Int))<=0:=Int.mul_nonpos_of_nonneg_of_nonpos WQ h1;omega
     exact hl
    have h6:a.start+iB s.kind s.length (Wq s.Ga)<=b.start:=h5;show a.start+iB s.kind s.length (Wq s.Ga)<b.start+iB s.kind s.length (Wq s.Ga);omega
   exact List.Pairwise.nil
  exact List.Pairwise.nil
def OB(hc:K5 g)(hd:g.Gb[i]?=Vv d)(hx:iE x (kI g r d))(hy:Le g r d y):y=x:=by
 unfold Le at hy;split at hy
 ·rename_i hb;obtain⟨z,hz,-,rfl⟩:=hy;cases hn:uM r with
  |false =>
   rw[bh XN];exact(hz.eq (tq hb hn hz) fun n=>by unfold kI;rw[hb,hn];simp).trans (hx.eq (tq hb hn hz) fun _=>Iff.rfl).symm
  |true =>
   rw[aw lX];have hq:iE (z.filter fun f=>(jE g r.near).any fun e=>V7 (e.1=d.name)&&V7 (e.2=f.1)) (kI g r d):=by
    refine yE hb hn hz ⟨⟨fun q hq=>hz.1.1 q (DS.1 hq).1,hz.1.2.filter _⟩,fun n=>⟨fun⟨f,hf,h1,h2⟩=>?_,fun⟨q,hq,h1,h2⟩=>?_⟩⟩
    ·obtain⟨Yi,a7⟩:=DS.1 hf;obtain⟨e,he,a5⟩:=GP.1 a7;rw[eh,fk,fk]at a5;have a8:=hz.1.1 f Yi;refine⟨(e.2,f.1+f.2-e.2),BY.2 ⟨e,he,List.mem_filterMap.2 ⟨f,Yi,aw ⟨a5.1,WQ,WQ⟩⟩⟩,?_,?_⟩
     ·show e.2<=n;omega
     show n<e.2+(f.1+f.2-e.2);omega
    obtain⟨e,he,hen,h3,f,hf,h4,h5,h6⟩:=Dl hq;have:=MR hc hd he hen hz hf h4 h5;exact⟨f,DS.2 ⟨hf,GP.2 ⟨e,he,by simp[hen,this]⟩⟩,WQ,WQ⟩
   rw[hx.eq hq fun _=>Iff.rfl];exact GY fun f _=>MJ (MQ hc r.near d.name)
 rename_i hb;rw[hy,OV hx fun n h=>hb h.1]
structure A7(r:aY):Prop where
 l:1<=r.Gi/\r.Gi<=6
 s:1<=r.Gh/\r.Gh<=6
 ls:r.Gi*r.Gh<=6
 e:1<=r.Gc/\r.Gc<=4096
 p:1<=r.Gg/\r.Gg<=5
def A7.of(h:kP g r=0):A7 r:=by
 unfold kP at h;split at h
 ·unfold yZ at h;split at h
  ·cases h
  rename_i h1;split at h
  ·cases h
  rename_i h2;simp only[Bool.not_eq_false,Dr,Ek,eh,fk]at h1 h2;exact⟨h1.1.1.1,h1.1.1.2,h1.1.2,h1.2,h2⟩
 rename_i hm;exact absurd h hm
def aZ{l:RH}(h:W.1[b]?=Vv (Sx l.toArray t q))(i:Nat)(z:zY)(hz:l[i]?=Vv z):W.cell? (b,i)=Vv z:=by
 exact TcK
def Taj(x0:af)(x1:iX)(x2:aY)(x3:zY):Tab #[By x0.name,Bm U8 x0.id,Bm Sj x0.seq,Bm Sj x0.Gd,Bm Sj x0.next,FG x1.tp (Wq x0.tags) x1.tc,FG x1.dp (Wq x0.Gb) x1.dc,FG x1.vp (Wq x0.F9) x1.vc,FG x1.hp (Wq x0.history) x1.hc,Bm Sj x2.Gi,Bm Sj x2.Gh,Bm Sj x2.Gc,Bm Sj x2.Gg,By x2.tag,By x2.near,By x2.sep,x3]:=⟨⟩
def NL(g:af)(a:iX)(r:aY)(pv:zY)(w:H7)(h:A7 r):Calls prog 50 #[Tk (Taj g a r pv)] w fun e w'=>e=S6 (Bm Sj (r.Gi*r.Gh))/\Below w.1.size w w':=by
 have hB:=ae w (Sx (Taj g a r pv) 78);have hN:=b9 w (Sx (Taj g a r pv) 78);have c9:=aZ hN 9 _ lX;have c10:=aZ hN 10 _ lX;have h0:0<=r.Gi*r.Gh:=oA (by have:=h.l.1;omega) (by have:=h.s.1;omega);have hw:IntKind.i64.wrap (r.Gi*r.Gh)=r.Gi*r.Gh:=dy _ (by have:=h.ls;omega);have HB:=aa hB;clear hN hB h0;go_enter func50,ntmps50;exact TcM
def LA(r:aY):Int:=if 1<r.Gi*r.Gh then 2 else if r.Gg=1 then 1 else 0
def TcH(h:gt:=by
 go_wp2;go_ret;exact⟨by rw[HW.o];rfl,cm.o⟩):=h
def Mg(g:af)(a:iX)(r:aY)(pv:zY)(w:H7)(h:A7 r):Calls prog 25 #[Tk (Taj g a r pv)] w fun e w'=>e=S6 (Bm Sj (LA r))/\Below w.1.size w w':=by
 have hB:=ae w (Sx (Taj g a r pv) 78);have hN:=b9 w (Sx (Taj g a r pv) 78);obtain⟨c0,c1,c2,c3,c4,c5,c6,c7,c8,c9,c10,ZS,ao,Sf,TO,RK,RW⟩:=And.intro (aZ hN 0 _ lX) (And.intro (aZ hN 1 _ lX) (And.intro (aZ hN 2 _ lX) (And.intro (aZ hN 3 _ lX) (And.intro (aZ hN 4 _ lX) (And.intro (aZ hN 5 _ lX) (And.intro (aZ hN 6 _ lX) (And.intro (aZ hN 7 _ lX) (And.intro (aZ hN 8 _ lX) (And.intro (aZ hN 9 _ lX) (And.intro (aZ hN 10 _ lX) (And.intro (aZ hN 11 _ lX) (And.intro (aZ hN 12 _ lX) (And.intro (aZ hN 13 _ lX) (And.intro (aZ hN 14 _ lX) (And.intro (aZ hN 15 _ lX) (aZ hN 16 _ lX))))))))))))))));have HB:=aa hB;replace hN:=aa hN;clear hB;have HC:=aa (NL g a r pv (w.alloc (Sx (Taj g a r pv) 78)) h);go_enter func25,ntmps25
 go_wp2_with fail;refine HC.o.mono ?_;rintro e w2 ⟨rfl,hb2⟩;have cm:=YS HB hb2;have a5:=Zl hb2 hN;clear hb2 c0 c1 c2 c3 c4 c5 c6 c7 c8 c9 c10 ZS ao Sf TO RK RW;have a7:=aZ a5.o 12 _ lX;by_cases h1:1<r.Gi*r.Gh
 ·have hg:V7 (r.Gi*r.Gh>1)=VR:=eA h1;have HW:Hid (LA r=2):=aa (aw h1);clear h1;exact TcH
 have hg:V7 (r.Gi*r.Gh>1)=VN:=cN h1;by_cases h2:r.Gg=1
 ·have hq:(r.Gg==1)=VR:=by simp[h2]
  have HW:Hid (LA r=1):=aa ((bh h1).trans (aw h2));clear h1 h2;exact TcH
 have hq:(r.Gg==1)=VN:=by simp[h2]
 have HW:Hid (LA r=0):=aa ((bh h1).trans (bh h2));clear h1 h2;exact TcH
def wR(h:W.1[b]?=Vv (Sx l t (0,0)))(i:Nat):W.frozen? (b,i)=VN:=by simp[BT,h]
def Np{ok:LN}(g:af)(a:iX)(r:aY)(pv:zY)(k:Nat)(st:Int)(d:az)(w:H7)(hr:ck aO 7 ok w [FG a.dp (Wq g.Gb) a.dc] g.Gb)(hd:g.Gb[k]?=Vv d)(hl:Wq g.Gb<=1000000):Calls prog 48 #[Tk (Taj g a r pv),Bm Sj (k:Int),Bm Sj st] w fun e w'=>e=S6 (Tk (Tat d.name st))/\Below w.1.size w w':=by
 have hB:=ae w (Sx (Taj g a r pv) 78);have hN:=b9 w (Sx (Taj g a r pv) 78);have a5:=ae (w.alloc (Sx (Taj g a r pv) 78)) (Sx Tau 53);have sC:=b9 (w.alloc (Sx (Taj g a r pv) 78)) (Sx Tau 53);have pC:=hB.trans (a5.mono hB.size);have US:=(a5.block _ (aq hN)).trans hN;rw[cW]at sC;have a8:=(AT.1 hd).1;have ij:Wq g.Gb<=a.dc/\a.dc<=9223372036854775807:=by
  obtain⟨_,_,e,h1,h2⟩:=hr.cap;injection e with _ _ e3;rw[e3];exact⟨h1,h2⟩
 obtain⟨a9,ab⟩:=ij;obtain⟨b,off,us,yp,gR,cX,ez,eE,a7⟩:=hr.elem hd;obtain⟨tv,rfl,ew⟩:=eE;have d0:=a7 0 _ lX;rw[fg]at d0;have c6:=(aZ US 6 _ lX).trans (fj (fun p=>Vv (FG p (Wq g.Gb) a.dc)) yp);have e0:=(Sc pC cX).trans d0;have z0:=aZ sC 0 _ lX;have z1:=aZ sC 1 _ lX;have z2:=aZ sC 2 _ lX;have zf:=wR sC;replace pC:=aa pC;clear hN hB hr hd ez a7 ew d0 yp US sC a5;go_enter func48,ntmps48
 go_upto_region 1 with(fail);generalize RE:AI (AI w _) _=W1 at *;have mA:w.1.size<=w.1.size+1:=by omega
 clear RE;go_wp2;refine eC (v:=Tk (Tat d.name st)) (by simp[results,Tryz.results48,go_sem,z0,z1,z2]) lX ⟨rfl,?_⟩;have hL:∀(V:H7) (o:Nat) (z:zY),Below w.1.size w V->Below w.1.size w (V.setCell ⟨w.1.size+1,o,VX⟩ z):=fun V o z q=>q.setCell (p:=⟨w.1.size+1,o,VX⟩) mA z;exact hL _ _ _ (hL _ _ _ (hL _ _ _ pC.o))
def Pp(g:af)(a:iX)(r:aY)(w:H7)(e:Ending)(w':H7):Prop :=
 ∃v xs,e=S6 (Vj #[Tk (Taj g a r v),Bm Sj (kP g r)])/\fH w' w.1.size v xs/\tK g r xs/\(xs.length=if kP g r=0 then Wq g.Gb else 0)/\Below w.1.size w w'
def Taf(x0:af)(x1:iX)(x2:aY)(x3:Nat)(x4:IH)(x5:Nat):Tab #[By x0.name,Bm U8 x0.id,Bm Sj x0.seq,Bm Sj x0.Gd,Bm Sj x0.next,FG x1.tp (Wq x0.tags) x1.tc,FG x1.dp (Wq x0.Gb) x1.dc,FG x1.vp (Wq x0.F9) x1.vc,FG x1.hp (Wq x0.history) x1.hc,Bm Sj x2.Gi,Bm Sj x2.Gh,Bm Sj x2.Gc,Bm Sj x2.Gg,By x2.tag,By x2.near,By x2.sep,FG x4 x3 x5]:=⟨⟩
def Taz :Tab #[By ⟨#[]⟩,Bm U8 0,Bm Sj 0,Bm Sj 0,Bm Sj 0,FG VX 0 0,FG VX 0 0,FG VX 0 0,FG VX 0 0,Bm Sj 0,Bm Sj 0,Bm Sj 0,Bm Sj 0,By ⟨#[]⟩,By ⟨#[]⟩,By ⟨#[]⟩,FG VX 0 0]:=⟨⟩
def IJ{ok:LN}(g:af)(a:iX)(r:aY)(w:H7)(hg:dN ok w g a)(ah:GOk g)(hr:dK r)(hS:AW w):Calls prog 21 #[Tk (Zg g a),Tk (Tam r)] w (Pp g a r w):=by
 have hA1:=ae w (Sx (Zg g a) 31);have US:=b9 w (Sx (Zg g a) 31);generalize RE:w.alloc (Sx (Zg g a) 31)=W1 at *;have hA2:=ae W1 (Sx (Tam r) 34);have sC:=b9 W1 (Sx (Tam r) 34);have R0:W1.1.size=w.1.size+1:=by rw[<- RE];exact cW ..
 generalize a7:W1.alloc (Sx (Tam r) 34)=W2 at *;have hA3:=ae W2 (Sx Taz 78);have ag:=b9 W2 (Sx Taz 78);have RC:W2.1.size=w.1.size+2:=by rw[<- a7,cW,R0]
 generalize a8:W2.alloc (Sx Taz 78)=W3 at *;have am:W3.1.size=w.1.size+3:=by rw[<- a8,cW,RC]
 have HB:=aa (hA1.trans ((hA2.mono WQ).trans (hA3.mono WQ)));have a9:=aa ((hA3.block _ WQ).trans ((hA2.block _ WQ).trans US));have Lz:=aa ((hA3.block _ WQ).trans sC);have HR1:=aa ag;rw[R0]at Lz;rw[RC]at HR1;clear hA1 hA2 hA3 US sC ag;have gL:=aZ a9.o;have g0:=xr gL;have qL:=aZ Lz.o;have q0:=se qL;clear gL qL;have HP:=aa (jk g a r W3 (hg.mv (Mv.of HB.o)) ah hr (hS.below HB.o));clear hg hS;go_enter func21,ntmps21
 go_upto_region 1 with(fail)
 try simp only[RE,a7,a8]
 try simp only[R0,RC]
 clear RE a7 a8;go_wp2_with fail;refine HP.o.mono ?_;clear HP;intro e w8 hp;obtain⟨xv,xs,rfl,ab,Zs,vh,a5⟩:=hp.form;clear hp;have HG:=aa ((a5.block _ WQ).trans a9.o);have HQ:=aa ((a5.block _ WQ).trans Lz.o);have HR:=aa ((a5.block _ WQ).trans HR1.o);have B3:=YS HB a5;obtain⟨px,cx,rfl,ao,aq⟩:=ab.cap;have PW:=aa ab;have ai:=aa Zs;have HXL:=aa vh;have gO:=a5.size;clear g0 q0 a5 ab Zs vh a9 Lz HR1 HB;have gL:=aZ HG.o;have g0:=xr gL;have qL:=aZ HQ.o;have q0:=se qL;clear gL qL;have z0:=aZ HR.o 0 _ lX;have z1:=aZ HR.o 1 _ lX;have z2:=aZ HR.o 2 _ lX;have z3:=aZ HR.o 3 _ lX;have z4:=aZ HR.o 4 _ lX;have z5:=aZ HR.o 5 _ lX;have z6:=aZ HR.o 6 _ lX;have z7:=aZ HR.o 7 _ lX;have z8:=aZ HR.o 8 _ lX;have z9:=aZ HR.o 9 _ lX;have z10:=aZ HR.o 10 _ lX;have z11:=aZ HR.o 11 _ lX;have z12:=aZ HR.o 12 _ lX;have z13:=aZ HR.o 13 _ lX;have z14:=aZ HR.o 14 _ lX;have aj:=aZ HR.o 15 _ lX;have z16:=aZ HR.o 16 _ lX;have zf:=wR HR.o;have mA:w.1.size<=w.1.size+2:=by omega
 go_wp2;refine eC (v:=Vj #[Tk (Taf g a r xs.length px cx),Bm Sj (kP g r)]) (by simp[results,Tryz.results21,go_sem,z0,z1,z2,z3,z4,z5,z6,z7,z8,z9,z10,z11,z12,z13,z14,aj,z16]) lX ⟨_,xs,rfl,?_,ai.o,HXL.o,?_⟩
 ·refine(PW.o.blk fun k hk _=>?_).mono WQ;have ak:k≠w.1.size+2:=by omega
  simp only[bw _ ⟨w.1.size+2,_,VX⟩ _ k ak]
 have hL:∀(V:H7) (o:Nat) (z:zY),Below w.1.size w V->Below w.1.size w (V.setCell ⟨w.1.size+2,o,VX⟩ z):=fun V o z q=>q.setCell (p:=⟨w.1.size+2,o,VX⟩) mA z
 exact(hL _ _ _ (hL _ _ _ (hL _ _ _ (hL _ _ _ (hL _ _ _ (hL _ _ _ (hL _ _ _ (hL _ _ _ (hL _ _ _ (hL _ _ _ (hL _ _ _ (hL _ _ _ (hL _ _ _ (hL _ _ _ (hL _ _ _ (hL _ _ _ (hL _ _ _ B3.o)))))))))))))))))
attribute [local go_sem] Oper.semAt_some
def nU:Nat->wy RU->wy (Nat × H5)
 |_,[]=>[]
 |i,x :: r=>x.map (fun p=>(i,p))++nU (i+1) r
def iU(xs:wy RU):wy (Nat × H5):=nU 0 xs
def uz:∀(i:Nat) (a b:wy RU),nU i (a++b)=nU i a++nU (i+a.length) b
 |_,[],_=>rfl
 |i,x :: a,b=>by
  rw[IT,nU,nU,uz (i+1) a b,cV,cS,show i+1+a.length=i+(a.length+1) by omega]
def Ls(h:xs[k]?=Vv x):iU (xs.take (k+1))=iU (xs.take k)++x.map fun p=>(k,p):=by
 have hk:=(AT.1 h).1;rw[take_snoc' xs k x h];unfold iU;rw[uz,ey,Nat.min_eq_left WQ,eJ];simp[nU]
def OH(h:xs[k]?=Vv x)(hp:x[m]?=Vv p):∃rest,iU xs=(iU (xs.take k)++(x.take m).map (fun p=>(k,p)))++(k,p) :: rest:=by
 have hk:=(AT.1 h).1;have e1:xs=xs.take (k+1)++xs.drop (k+1):=(rk ..).symm;have e2:x=x.take m++p :: x.drop (m+1):=al6 hp;refine⟨(x.drop (m+1)).map (fun p=>(k,p))++nU (k+1) (xs.drop (k+1)),?_⟩;have e3:iU xs=iU (xs.take (k+1))++nU (k+1) (xs.drop (k+1)):=by
  conv=>lhs;rw[e1]
  unfold iU;rw[uz,ey,Nat.min_eq_left WQ,eJ]
 rw[e3,Ls h];conv=>lhs;rw[e2]
 simp
abbrev L8(xs:wy RU):Type:={ y:Nat × H5 // y∈iU xs }
def Mx{y:Nat × H5}(h:(iU xs)[c]?=Vv y):(iU xs).attach.take (c+1)=(iU xs).attach.take c++[⟨y,ct h⟩]:=by
 have hc:=(AT.1 h).1;have h2:(iU xs).attach[c]?=Vv ⟨y,ct h⟩:=by
  have a5:c<(iU xs).attach.length:=by rw[List.length_attach];exact hc
  rw[lO a5];congr 1
  apply Subtype.ext;rw[List.getElem_attach];exact(AT.1 h).2
 exact take_snoc' _ c _ h2
def OI(z:L8 xs):Array zY:=#[Bm Sj (z.1.1:Int),Tk #[Bm Sj z.1.2.1,Bm Sj z.1.2.2]]
def LY(h:xs[k]?=Vv x)(hp:x[m]?=Vv p):(iU xs)[(iU (xs.take k)).length+m]?=Vv (k,p):=by
 obtain⟨rest,e⟩:=OH h hp;have hm:=(AT.1 hp).1;rw[e];have e2:(iU (xs.take k)++(x.take m).map fun p=>(k,p)).length=(iU (xs.take k)).length+m:=by
  rw[cD,fW,ey,Nat.min_eq_left WQ]
 rw[Cp WQ,e2,Nat.sub_self];rfl
def KpN(n₀:Nat)(W W':H7):Prop:=Below n₀ W W'
def ug(n₀:Nat)(w:H7)(px:IH)(xs:wy RU):Prop :=
 ∀(k:Nat) (x:RU),xs[k]?=Vv x->∃(bx:Nat) (p:IH) (c:Nat),px=Vv ⟨bx,0,VX⟩/\bx<n₀/\w.cell? (bx,k)=Vv (FG p x.length c)/\x.length<=c/\c<=9223372036854775807 /\
  (0<x.length->∃b off,p=Vv ⟨b,off,VX⟩/\b<n₀/\ru w b off x)
def Bo(n n₀ Bt:Nat)(hn1:1<=n)(w:H7)(px:IH)(cx:Nat)(xs:wy RU)(hc:w.cell? (XM Bt 16)=Vv (FG px xs.length cx))(ah:xs.length<=cx/\cx<=9223372036854775807)(Ue:Bt<w.1.size)(hn:n₀<=w.1.size)(hr:ug n₀ w px xs)(vh:xs.length<=1000)(ab:∀x∈xs,x.length<=300000) :
  SeqStopsK Fence.wide n prog 96 #[SL (Vv Bt)] (OI (xs:=xs)) (KpN n₀) (fun ys=>ys=(iU xs).attach) (fun pre=>pre <+: (iU xs).attach) (iU xs).length w:=by
 intro l J Jx W hW hJ Z9 hY h0;refine callsIn_of_wp func96 lX trivial ?_ lX;simp only[ntmps96,List.size_toArray,cS,ux,Nat.reduceAdd,Nat.reduceSub,Array.replicate_succ,Array.replicate_zero,List.push_toArray,List.append_toArray,GO,IT];have au:W.cell? (XM Bt 16)=Vv (FG px xs.length cx):=(cd (w:=w) (hW.block Bt Ue)).trans hc;have HR:=aa hr;have HY:=aa hY;have HJ:=aa hJ;have ai:=aa ab;have HW:=aa hW;have av:=cA hn hW.size;obtain⟨aw,ay⟩:=ah;clear hc hr hY hJ Z9 ab hW;gi_wp2
 gi_loopw [10] (fun i wr=>∃k:Nat,k<=xs.length/\i=Bm Sj k/\J ((iU xs).attach.take (iU (xs.take k)).length) wr/\Below n₀ W wr/\W.1.size<=wr.1.size) (fun i _=>xs.length-(intOf i).toNat)
 exact⟨0,cg _,rfl,by rw[show(iU (xs.take 0)).length=0 from by rw[iv];rfl,iv];exact h0,bj _ _,bk _⟩;obtain⟨k,hk,rfl,a5,hB,hz⟩:=hrel;by_cases hlt:k<xs.length
 ·obtain⟨x,hx⟩:=aj xs k hlt;obtain⟨bx,pu,cu,rfl,PX,af,az,aA,a8⟩:=HR.o k x hx;have cX:wr.1[bx]?=w.1[bx]?:=(hB.block bx PX).trans (HW.o.block bx WQ);have ak:wr.cell? (bx,k)=Vv (FG pu x.length cu):=(cd (w:=w) cX).trans af;have Tn:=ai.o x (ct hx);replace hx:=aa hx;replace a8:=aa a8;replace a5:=aa a5;replace hB:=aa hB;replace hz:=aa hz;clear af cX;gi_wp2
  clear ak;gi_loopw [17] (fun i wr=>∃m:Nat,m<=x.length/\i=Bm Sj m/\J ((iU xs).attach.take ((iU (xs.take k)).length+m)) wr/\Below n₀ W wr/\W.1.size<=wr.1.size) (fun i _=>x.length-(intOf i).toNat)
  exact⟨0,cg _,rfl,by rw[fg];exact a5.o,hB.o,hz.o⟩;clear a5 hB hz;obtain⟨m,hm,rfl,a5,hB,hz⟩:=hrel;by_cases hlt2:m<x.length
  ·obtain⟨p,hp⟩:=aj x m hlt2;obtain⟨bp,PC,rfl,am,a9⟩:=a8.o WQ;have cX:wr.1[bp]?=w.1[bp]?:=(hB.block bp am).trans (HW.o.block bp WQ);have p0:wr.cell? (bp,PC+m*2)=Vv (Bm Sj p.1):=(cd (w:=w) cX).trans (a9 m p hp).1;have p1:wr.cell? (bp,PC+m*2+1)=Vv (Bm Sj p.2):=(cd (w:=w) cX).trans (a9 m p hp).2;have a7:=aa (LY hx.o hp);replace hp:=aa hp;have hA:=ae wr (Sx #[Bm Sj p.1,Bm Sj p.2] 49);have HN:=aa (b9 wr (Sx #[Bm Sj p.1,Bm Sj p.2] 49));have ag:=HJ.o _ _ _ VX a5 (cK hA) (fun r e=>by cases e);have cm:=aa (hB.trans (hA.mono WQ));have HZ2:=aa (cA hz hA.size);have ao:=(AT.1 a7.o).1;have On:((iU xs).attach.take ((iU (xs.take k)).length+m)).length<(iU xs).length:=by
    rw[ey,List.length_attach];omega
   have b0:=aZ HN.o 0 _ lX;have b1:=aZ HN.o 1 _ lX;obtain⟨fn,tmps,assign,body,hy,hR⟩:=HY.o _ ⟨(k,p),ct a7.o⟩ _ ag On;replace hR:=aa hR;dsimp only[OI]at hy;clear a5 ag hB hz hA cX a9 On ao;gi_wp2
   refine hR.o.mono ?_;rintro e w3 (⟨rfl,hJ3,hk3⟩|⟨rfl,hx3⟩)
   ·have QU:=aa hJ3;clear hJ3;have cJ:=aa (cm.o.trans hk3);have aq:=aa (cA HZ2.o (Below.size hk3));clear hk3 hy b0 b1 p0 p1 hR;gi_wp2
    go_roundw;exact⟨m+1,WQ,Zf,by rw[<- Nat.add_assoc,Mx a7.o];exact QU.o,cJ.o,aq.o⟩;exact Ti
   replace hx3:=aa hx3;clear hy b0 b1 p0 p1 hR;gi_wp2
   refine eC (results_none lX _ _ _) lX ?_;exact⟨⟨_,rfl⟩,.inr ⟨_,by rw[<- Mx a7.o];exact List.take_prefix _ _,hx3.o⟩⟩
  obtain rfl:m=x.length:=by omega
  have QU:=aa a5;clear a5;gi_wp2
  go_roundw;exact⟨k+1,WQ,Zf,by rw[Ls hx.o,cD,fW];exact QU.o,hB,hz⟩;exact Ti
 obtain rfl:k=xs.length:=by omega
 have QU:=aa a5;clear a5;gi_wp2
 go_end0
 exact⟨⟨_,rfl⟩,.inl ⟨_,rfl,by have:=QU.o;rwa[cI,jz (by rw[List.length_attach];exact bk _)]at this⟩⟩
def Mf(g:af)(a:iX)(r:aY)(w:H7):Calls prog 47 #[Tk (Taj g a r pv)] w fun e w'=>e=S6 (.func (.func 96) #[] #[SL (Vv w.1.size)])/\w'=w.alloc (Sx (Taj g a r pv) 78):=by
 go_enter func47,ntmps47;go_wp2;go_ret;exact⟨rfl,rfl⟩
def rA:Int->wy (Nat × H5)->wy (Nat × H5) × Int
 |rest,[]=>([],rest)
 |rest,x :: l=>if rest<=0 then([],rest) else(x :: (rA (rest-x.2.2) l).1,(rA (rest-x.2.2) l).2)
end
section
open Go.RowKit
def Ha(n:Nat):Code->Option Code
 |.rangeFunc _ _ a b=>match kX n a with
  |some c=>Vv c
  |none=>kX n b
 |.seq a b=>match Ha n a with
  |some c=>Vv c
  |none=>Ha n b
 |.block _ c=>Ha n c
 |.loop c=>Ha n c
 |.scope c=>Ha n c
 |.cond _ a b=>match Ha n a with
  |some c=>Vv c
  |none=>Ha n b
 |_=>VX
noncomputable def O5(f:Func)(n:Nat):Code:=((f.body.bind (Ha n)).getD .skip)
section
variable {n l:Nat}{P:Program}{ops:Array Oper}{Q:N2}{md:Region.Mode}
variable {i:Nat}{w:H7}{K:Act->H7->Prop}{a:Act}
def JR(ops:Array Oper):Bool:=ops.all fun o=>match o.op with
 |.defer _=>VN
 |_=>VR
def L9(h:JR ops=VR){o:Oper}(ho:ops[i]?=Vv o):∀c,o.op≠.defer c:=fun c e=>by
 have hm:=Array.mem_of_getElem? ho;have:=(Array.all_eq_true'.1 h) o hm;rw[e]at this;cases this
def Oa{f:FuncId}{R:Ending->H7->Prop}(h:Calls P f args w R):CallsIn (Fence.wide.inRound l) n P f args w R:=(callsIn_wide.2 h).inRound l
def Pd{o:Oper}(ho:∀c,o.op≠.defer c)(h:o.wp P a w K Q):o.wpIn (Fence.wide.inRound l) n P a w K Q:=by
 refine⟨fun _ _=>trivial,?_⟩;rw[Fence.inRound_round,Oper.semAt_some _ _ _ ho];unfold Oper.wp at h;generalize (execOp a.eval o).run P w=r at *
 match r with
 |.ok (.value u) w'=>exact h
 |.ok .skip w'=>exact h
 |.ok (.defer d) w'=>exact h
 |.ok (.enter f args) w'=>exact⟨fun q=>by simp[Fence.wide,Fence.inRound]at q,CallsIn.mono (Oa h) fun e a5 he=>by cases e<;>exact he⟩
 |.ok (.row row args) w'=>exact⟨fun q=>by simp[Fence.wide,Fence.inRound]at q,fun c cs _=>by
   obtain⟨v,a5,r,s⟩:=h c cs;exact⟨v,a5,r,stepsIn_wide.2 s⟩⟩
 |.ok (.round l f tmps assign body) w'=>exact h.elim
 |.halt (.panic u) w'=>exact h
def OD(hd:JR ops=VR)(hl:¬LetsOut Q)(h:wpOp P ops Q i K a w):wpOpIn (Fence.wide.inRound l) n P ops Q i K a w:=by
 unfold wpOp at h;unfold wpOpIn;cases ho:ops[i]? with
 |none=>simp only[ho]at h;exact h
 |some o =>
  simp only[ho]at h ⊢;split at h
  ·rename_i hw;rw[aw hw];exact Pd (L9 hd ho) (h.resolve_right fun q=>hl q.2)
  rename_i hw;rw[bh hw];exact⟨fun _ _=>trivial,h⟩
def LJ(hd:JR ops=VR)(hl:¬LetsOut Q):∀(fuel:Nat) (a5:Array Bool) (a:Act) (w:H7),wpAny P md ops Q fuel a5 a w->wpAnyIn (Fence.wide.inRound l) n P md ops Q fuel a5 a w
 |0,_,_,_,h=>h
 |fuel+1,_,_,_,h=>⟨h.1,fun i hi=>wpOpIn_mono (fun a' w' h'=>LJ hd hl fuel _ a' w' h') (OD hd hl (h.2 i hi))⟩
def F4{id:Nat}(S:H7->Prop)(m:Nat)(ws:wy Nat)(hd:JR ops=VR)(hl:¬LetsOut Q)(hm:P.follows .mixedOrders=VR)(hS:S w.drew)
  (h:S w.drew->bG P .any ops Q S (needs m ws) ops.size (GW ops.size VN) a w.drew):(Code.region id ops VR).wpIn (Fence.wide.inRound l) n P Q a w :=
 wpIn_region_any hm (LJ hd hl _ _ _ _ (mF _ _ _ _ (h hS)))
end
open Go.Maps Go.Shelf
variable {B k:Nat}{w:H7}{v c2 c3 c9 ZS Sf TO RK RW Rr SO Se St W0 ZD Wg Wr To UP aE ab eS da dj dq:zY}{l:wy aR}{e:Int}{px:IH}{xs:wy RU}
def iC.notT{t:TypeId}(h:iC B w v l)(hk:w.1[k]?=Vv (Sx cs t z))(ht:t≠53):v.ownBlock≠Vv k:=fun e=>by
 obtain⟨_,ho,_⟩:=h;rcases ho.2 with⟨rfl,_⟩|⟨g,cap,a5,rfl,_,XQ,_⟩
 ·cases e
 obtain rfl:g=k:=by injection e
 rw[hk]at XQ;injection XQ with XQ;injection XQ with _ XQ _;exact ht XQ
def Oz{ok:LN}(lr nn:Nat)(w:H7)(g:af)(a:iX)(r:aY)(v:zY)(B Bt Bl Br k:Nat)(d:az)(p:H5)(l:wy aR)
  (ht:w.1[Bt]?=Vv (Sx (Taj g a r pv) 78 (0,0))) (hl:w.1[Bl]?=Vv (Sx #[v] 47 (0,0))) (hr:w.1[Br]?=Vv (Sx #[Bm Sj p.1,Bm Sj p.2] 49 (0,0))) (hO:iC B w v l) (hB:B<=w.1.size) (hll:l.length<=100000)
  (kf:ck aO 7 ok w [FG a.dp (Wq g.Gb) a.dc] g.Gb) (hd:g.Gb[k]?=Vv d) (CD:Wq g.Gb<=1000000)
  (HK:Hid (∀(v':zY) (W':H7) (u17 u18 u19 u20 u21 u22 u23 u24:zY),iC B W' v' (l++[⟨VN,d.name,p.1⟩])->W'.1[Bl]?=Vv (Sx #[v'] 47 (0,0))->(∀b,b<w.1.size->b≠Bl->v.ownBlock≠Vv b->W'.1[b]?=w.1[b]?)->w.1.size<=W'.1.size->W'.os=w.os->W'.tape=w.tape->W'.output=w.output->Q .normal ⟨#[c0,SL (Vv Bt),c2,c3,SL (Vv Bl),c5,Bm Sj (k:Int),SL (Vv Br),c8,c9,c10,ZS,ao,Sf,TO,RK,RW,u17,u18,u19,u20,u21,u22,u23,u24,To,UP,aE,ab,eS,da,dj,dq],[]⟩ W'))
  (hQ:∀c (a:Act) (d:Tmp) (v:zY) w,Q (.panic c) (a.put (Vv d) v) w->Q (.panic c) a w) (ag:¬LetsOut Q) :
  (O5 Tryz.f22 7).wpIn (Fence.wide.inRound lr) nn prog Q ⟨#[c0,SL (Vv Bt),c2,c3,SL (Vv Bl),c5,Bm Sj (k:Int),SL (Vv Br),c8,c9,c10,ZS,ao,Sf,TO,RK,RW,Rr,SO,Se,St,W0,ZD,Wg,Wr,To,UP,aE,ab,eS,da,dj,dq],[]⟩ w:=by
 conv=>arg 4;whnf
 have ah:=aq ht;have hbl:=aq hl;have ai:=aq hr;replace hO:=aa hO;have HL:=aa hl;have hne:=hO.o.notT hl YR;obtain⟨i0,hi,du,R0,RC⟩:=gg kL;replace hi:=aa hi;replace du:=aa du;replace R0:=aa R0;replace RC:=aa RC;replace kf:=aa kf;replace hd:=aa hd;have HS:Hid (∀w':H7,Below w.1.size w w'->w'.1[Bt]?=Vv (Sx (Taj g a r pv) 78 (0,0))/\w'.1[Bl]?=Vv (Sx #[v] 47 (0,0))/\w'.1[Br]?=Vv (Sx #[Bm Sj p.1,Bm Sj p.2] 49 (0,0))):=aa fun w' e=>⟨(e.block _ ah).trans ht,(e.block _ hbl).trans hl,(e.block _ ai).trans hr⟩;clear ht hl hr;refine F4 (fun w'=>w'.1[Bt]?=Vv (Sx (Taj g a r pv) 78 (0,0))/\w'.1[Bl]?=Vv (Sx #[v] 47 (0,0))/\w'.1[Br]?=Vv (Sx #[Bm Sj p.1,Bm Sj p.2] 49 (0,0))) 7 [] Yp ag Yp (HS.o _ (bj _ _).drew) (fun a7=>?_)
 (refine o7 (i:=0) (v:=?_) lX rfl Yp (fun _ _ _ h=>hQ _ _ _ _ _ h) (Or.inl ⟨ZR,?_⟩) a7 ?_;rotate_left;(intro w fi;have l0:=aZ fi.2.1 0 _ lX;clear fi;go_simp;(try(with_reducible rfl)));(try simp only[aS]))
 (refine o7 (i:=1) (v:=?_) lX rfl Yp (fun _ _ _ h=>hQ _ _ _ _ _ h) (Or.inl ⟨ZR,?_⟩) a7 ?_;rotate_left;(intro w fi;have s0:=aZ fi.1 0 _ lX;have s1:=aZ fi.1 1 _ lX;have s2:=aZ fi.1 2 _ lX;have s3:=aZ fi.1 3 _ lX;have s4:=aZ fi.1 4 _ lX;have s5:=aZ fi.1 5 _ lX;have s6:=aZ fi.1 6 _ lX;have s7:=aZ fi.1 7 _ lX;have s8:=aZ fi.1 8 _ lX;have s9:=aZ fi.1 9 _ lX;have au:=aZ fi.1 10 _ lX;have av:=aZ fi.1 11 _ lX;have aw:=aZ fi.1 12 _ lX;have ay:=aZ fi.1 13 _ lX;have aA:=aZ fi.1 14 _ lX;have aB:=aZ fi.1 15 _ lX;have aC:=aZ fi.1 16 _ lX;clear fi;go_simp;(try(with_reducible rfl)));(try simp only[aS]))
 refine cH hQ 2 a7 ?_;refine cH hQ 3 a7 ?_;(refine o7 (i:=4) (v:=?_) lX rfl Yp (fun _ _ _ h=>hQ _ _ _ _ _ h) (Or.inl ⟨ZR,?_⟩) a7 ?_;rotate_left;(intro w fi;have r0:=aZ fi.2.2 0 _ lX;clear fi;go_simp;(try(with_reducible rfl)));(try simp only[aS]))
 refine lR 5 fun K hK=>?_;go_simp;refine(Np (ok:=ok) g a r pv k p.1 d w.drew ((ck.moves aO.moves).mv ⟨bk _,fun b _ hb=>⟨hb,rfl⟩⟩ kf.o) hd.o CD).mono ?_;rintro e w6 ⟨rfl,sh⟩;have a5:Below w.1.size w w6:=⟨sh.os,sh.tape,sh.output,sh.size,sh.block⟩;refine hK.o _ _ (HS.o _ a5) ?_;clear hK K a7;replace a5:=aa a5;clear sh;have a7:=HS.o _ a5.o;have G2:=ae w6 (Sx (Tat d.name p.1) 53);have aj:=aa ((hO.o.below a5.o).below G2);have pL:=aa G2;have PF:=cA hB a5.o.size;have a9:=aa (b9 w6 (Sx (Tat d.name p.1) 53));clear G2;refine lR 6 fun K hK=>?_;go_simp;refine hK.o _ _ (HS.o _ (a5.o.trans (pL.o.mono a5.o.size))) ?_;clear hK K a7;generalize ak:AI w6 _=w7 at *;generalize aD:w6.1.size=b7 at *;clear ak;refine aP Yp lX ?_;simp only[cQ,cL,km]
 go_wp2_with(at_builtin;refine dX aQ.moves underlying47 hi.o du.o R0.o RC.o lX YR YR lX lX B (fun _=>False) v l ⟨VN,d.name,p.1⟩ lX aj.o b7 1 [Ft VN,By d.name,Bm Sj p.1] lX rfl rfl ?d3 ?d4 ?d5 ?d6 (fun _ _ f=>f) ?_)
 all_goals first|(case d3=>(simp[Value.oneCell']))|(case d4=>(intro j y hy;rw[eJ];exact aZ a9.o j y hy))|(case d4=>(intro j y hy;exact aZ a9.o j y hy))|(case d5=>omega)|(case d6=>omega)|(case d6=>(have:=pL.o.size;omega))|skip
 intro gb cap w3 hp;have CT:∀j,j<w.1.size->v.ownBlock≠Vv j->w3.1[j]?=w.1[j]?:=fun j hj hn=>(hp.grown.block j (by have:=a5.o.size;have:=pL.o.size;omega) (fun e=>hn e.symm)).trans ((pL.o.block j (by have:=a5.o.size;omega)).trans (a5.o.block j hj));have a8:=(CT Bl hbl hne).trans HL.o;have z0:=aZ a8 0 _ lX;have zf:=wR a8;have QP:=aa a8;have HOW:=aa hp.own;have am:=aa CT;have PS:Hid (w.1.size<=w3.1.size/\w3.os=w.os/\w3.tape=w.tape/\w3.output=w.output):=aa ⟨by have:=a5.o.size;have:=pL.o.size;have:=hp.grown.size;omega,hp.grown.os.trans (pL.o.os.trans a5.o.os),hp.grown.tape.trans (pL.o.tape.trans a5.o.tape),hp.grown.output.trans (pL.o.output.trans a5.o.output)⟩;clear hp a8 CT;go_wp2;refine HK.o _ _ _ _ _ _ _ _ _ _ ?_ (block_setCell (i:=0) _ QP.o) (fun b hb h1 h2=>(bw _ _ _ _ h1).trans (am.o b hb h2)) (by simp[AF];exact PS.o.1) PS.o.2.1 PS.o.2.2.1 PS.o.2.2.2;exact iC.keep (B:=B) HOW.o Tdi fun j e=>bw _ _ _ _ (fun e'=>by subst e';exact iC.notT (B:=B) HOW.o QP.o YR e)
attribute [local go_sem] Oper.semAt_some
def jU(l:wy (Nat × H5)):Int:=(l.map (·.2.2)).sum
def arN(g:af)(x:Nat × H5):aR:=⟨VN,(g.Gb.getD x.1 gT).name,x.2.1⟩
def wQ(e:Int)(pre:wy (Nat × H5)):Prop:=∀a5,rA e (pre++a5)=(pre++(rA (e-jU pre) a5).1,(rA (e-jU pre) a5).2)
def wQ.nil(e:Int):wQ e []:=fun a5=>by simp[jU]
def FZ(pre:wy (Nat × H5))(x:Nat × H5):jU (pre++[x])=jU pre+x.2.2:=by simp[jU]
def wQ.snoc(h:wQ e pre)(h0:¬e-jU pre<=0)(x:Nat × H5):wQ e (pre++[x]):=fun a5=>by
 rw[cV,h,List.singleton_append,rA,bh h0,FZ,show e-(jU pre+x.2.2)=e-jU pre-x.2.2 by omega];simp
def wQ.done(h:wQ e pre):rA e pre=(pre,e-jU pre):=by
 have:=h [];rw[eM]at this;rw[this];simp[rA]
def wQ.stop{a5:wy (Nat × H5)}(h:wQ e pre)(h0:e-jU pre<=0):rA e (pre++a5)=(pre,e-jU pre):=by
 rw[h];cases a5 with
 |nil=>simp[rA]
 |cons x l=>simp[rA,h0]
def Jw(xs:wy RU):(iU xs).attach.map (·.1)=iU xs:=List.attach_map_subtype_val _
def ug.below(h:ug n₀ w px xs)(hb:Below n₀ w w'):ug n₀ w' px xs:=fun k x hx=>by
 obtain⟨bx,p,c,h1,h2,h3,h4,h5,h6⟩:=h k x hx;refine⟨bx,p,c,h1,h2,(cd (w:=w) (a:=⟨bx,k,VX⟩) (hb.block bx h2)).trans h3,h4,h5,fun h0=>?_⟩;obtain⟨b,off,e1,e2,e3⟩:=h6 h0;exact⟨b,off,e1,e2,fun i p hp=>⟨(cd (w:=w) (a:=⟨b,off+i*2,VX⟩) (hb.block b e2)).trans (e3 i p hp).1,(cd (w:=w) (a:=⟨b,off+i*2+1,VX⟩) (hb.block b e2)).trans (e3 i p hp).2⟩⟩
def N9(g:af)(a:iX)(r:aY)(px:IH)(cx b0:Nat)(xs:wy RU)(W5:H7)(pre:wy (L8 xs))(W:H7):Prop:=∃v,W.1[b0+1]?=Vv (Sx #[v] 47 (0,0))/\W.1[b0+2]?=Vv (Sx #[Bm Sj (r.Gc-jU (pre.map (·.1)))] 3 (0,0))/\iC (b0+4) W v ((pre.map (·.1)).map (arN g))/\W.1[b0]?=Vv (Sx (Taf g a r xs.length px cx) 78 (0,0))/\Below b0 W5 W/\W5.1.size<=W.1.size/\wQ r.Gc (pre.map (·.1))/\pre.length<=(iU xs).length
def Pv(g:af)(a:iX)(r:aY)(px:IH)(cx b0:Nat)(xs:wy RU)(W5:H7)(c:Code)(pre:wy (L8 xs))(W:H7):Prop:=c=.exit 0/\∃a5 x,pre=a5++[x]/\r.Gc-jU (a5.map (·.1))<=0/\N9 g a r px cx b0 xs W5 a5 W
def N9.own{b0:Nat}(a8:W5.1.size=b0+4):OwnFrom W5.1.size (N9 g a r px cx b0 xs W5):=by
 rintro pre W W' row ⟨v,h1,h2,h3,h4,h5,h6,h7,h8⟩ hg hr;obtain⟨cs,a5,a7⟩:=h3;exact⟨v,xu hg hr h1,xu hg hr h2,⟨cs,keepR hg hr a5,Flat.moves aQ.moves ⟨hg.size,fun b _ f=>f.elim⟩ _ _ a7⟩,xu hg hr h4,h5.grown hg WQ (fun k e=>by have:=(hr k e).1;omega),cA h6 hg.size,h7,h8⟩
def ku{o:Obj}(h:W.1[k]?=Vv o):k<W.1.size:=(F1.1 h).1
def iC.notObj{o:Obj}(h:iC B w v l)(hk:w.1[k]?=Vv o)(ho:o.isCells=VN):v.ownBlock≠Vv k:=fun e=>by
 obtain⟨_,hw,_⟩:=h;rcases hw.2 with⟨rfl,_⟩|⟨g,cap,a5,rfl,_,XQ,_⟩
 ·cases e
 obtain rfl:g=k:=by injection e
 rw[hk]at XQ;injection XQ with XQ;subst XQ;cases ho
noncomputable def MW(f:Func):Code:=((f.body.bind MH).getD .skip)
def NS{ok:LN}(g:af)(a:iX)(r:aY)(px:IH)(cx b0:Nat)(xs:wy RU)(W5:H7)(ao:W5.1.size=b0+4)(hq:A7 r)(kf:ck aO 7 (fun b=>ok b/\b<b0) W5 [FG a.dp (Wq g.Gb) a.dc] g.Gb)(CD:Wq g.Gb<=1000)(vh:xs.length=Wq g.Gb)(av:xs.length<=cx/\cx<=9223372036854775807)
  (hr:ug b0 W5 px xs) (aw:∀x∈xs,x.length<=10000) (hyl:(iU xs).length<=100000) (ay:∀y∈iU xs,y.1<Wq g.Gb/\1<=y.2.2/\y.2.2<=1000000) (az:∀pre:wy (L8 xs),pre.length<=(iU xs).length->0<=jU (pre.map (·.1))/\jU (pre.map (·.1))<=1000000000000)
  (aA:W5.1[b0+3]?=Vv (Sx (Taf g a r xs.length px cx) 78 (0,0))) (aB:W5.1[b0]?=Vv (Sx (Taf g a r xs.length px cx) 78 (0,0))) (aC:W5.1[b0+1]?=Vv (Sx #[FG VX 0 0] 47 (0,0))) (aD:W5.1[b0+2]?=Vv (Sx #[Bm Sj r.Gc] 3 (0,0)))
  (HK:Hid (∀(D:Nat) (v:zY) (l:wy (Nat × H5)) (W:H7),(rA r.Gc (iU xs)).1=l->W.1[b0+1]?=Vv (Sx #[v] 47 (0,0))->W.1[b0+2]?=Vv (Sx #[Bm Sj (rA r.Gc (iU xs)).2] 3 (0,0))->iC (b0+4) W v (l.map (arN g))->Below b0 W5 W->W5.1.size<=W.1.size->W5.1.size<=D->W.1[D]?=Vv (.deferred (Vv []))->Q .normal ⟨#[c0,SL (Vv b0),c2,c3,SL (Vv (XM (b0+1) 0)),SL (Vv (XM (b0+2) 0)),c6,c7,c8,c9,c10,ZS,.func (.func 96) #[] #[SL (Vv (XM (b0+3) 0))],Sf,TO,RK,RW,Rr,SO,Se,St,W0,ZD,Wg,Wr,To,UP,aE,ab,eS,da,dj,dq],[{ target:=.collected D,args:=#[] }]⟩ W)) (aF:Hid (∀(D:Nat) (v:zY) (l:wy (Nat × H5)) (W:H7),(rA r.Gc (iU xs)).1=l->W.1[b0+1]?=Vv (Sx #[v] 47 (0,0))->W.1[b0+2]?=Vv (Sx #[Bm Sj (rA r.Gc (iU xs)).2] 3 (0,0))->iC (b0+4) W v (l.map (arN g))->Below b0 W5 W->W5.1.size<=W.1.size->W5.1.size<=D->W.1[D]?=Vv (.deferred (Vv []))->Q (.exit 0) ⟨#[c0,SL (Vv b0),c2,c3,SL (Vv (XM (b0+1) 0)),SL (Vv (XM (b0+2) 0)),c6,c7,c8,c9,c10,ZS,.func (.func 96) #[] #[SL (Vv (XM (b0+3) 0))],Sf,TO,RK,RW,Rr,SO,Se,St,W0,ZD,Wg,Wr,To,UP,aE,ab,eS,da,dj,dq],[{ target:=.collected D,args:=#[] }]⟩ W)) :
  (MW Tryz.f22).wp prog Q ⟨#[c0,SL (Vv b0),c2,c3,SL (Vv (XM (b0+1) 0)),SL (Vv (XM (b0+2) 0)),c6,c7,c8,c9,c10,ZS,.func (.func 96) #[] #[SL (Vv (XM (b0+3) 0))],Sf,TO,RK,RW,Rr,SO,Se,St,W0,ZD,Wg,Wr,To,UP,aE,ab,eS,da,dj,dq],[]⟩ W5:=by
 conv=>arg 2;whnf
 refine(wpIn_wide (n:=3)).1 ?_;refine wpIn_rangeFunc_ownH (F:=Fence.wide) lX WQ (gf:=96) (lb:=#[SL (Vv (XM (b0+3) 0))]) lX trivial (enters_of func96 Yp lX)
  (Bo (3-1) b0 (b0+3) WQ W5 px cx xs (aZ aA 16 _ lX) av WQ WQ hr WQ (fun x hx=>by have:=aw x hx;omega))
  Below.trans (fun W l o o' hl h h1 h2=>belowK_b (w:=W5) WQ W l o o' hl h h1 h2) (bj _ _) (fun _=>rfl)
  (N9 g a r px cx b0 xs W5)
  (Pv g a r px cx b0 xs W5) ?own ?ownx ?init
  (fun x a' W=>∃Br,W.1[Br]?=Vv (Sx #[Bm Sj x.1.2.1,Bm Sj x.1.2.2] 49 (0,0))/\W5.1.size<=Br/\a'=⟨#[c0,SL (Vv b0),c2,c3,SL (Vv (XM (b0+1) 0)),SL (Vv (XM (b0+2) 0)),Bm Sj (x.1.1:Int),SL (Vv ⟨Br,0,VX⟩),c8,c9,c10,ZS,.func (.func 96) #[] #[SL (Vv (XM (b0+3) 0))],Bm Sj (x.1.1:Int),Tk #[Bm Sj x.1.2.1,Bm Sj x.1.2.2],RK,RW,Rr,SO,Se,St,W0,ZD,Wg,Wr,To,UP,aE,ab,eS,da,dj,dq],[]⟩) ?ax ?assign ?body ?done ?stop
 case own=>exact N9.own ao
 case init=>exact⟨FG VX 0 0,aC,by simpa[jU]using aD,iC.nil _ _,aB,bj _ _,bk _,wQ.nil _,cg _⟩
 case ownx =>
  rintro c pre W W' row ⟨rfl,a5,x,rfl,h0,hI⟩ hg hr;exact⟨rfl,a5,x,rfl,h0,N9.own ao a5 W W' row hI hg hr⟩
 case ax =>
  rintro x a' _ W W' row ⟨Br,h1,h2,h3⟩ hg hr;exact⟨Br,xu hg hr h1,h2,h3⟩
 case assign =>
  rintro l pre x W K ⟨v,h1,h2,h3,h4,h5,h6,h7,h8⟩ hK;have HI:=aa (⟨h1,h2,h3,h4,h5,h7,h8⟩:_/\_/\_/\_/\_/\_/\_);clear h1 h2 h3 h4 h5 h7 h8;have HK:=aa hK;clear hK;simp only[OI,List.zip_toArray,List.zip_cons_cons,List.zip_nil_right,List.foldl_toArray,cF,cq,xT,List.set_cons_succ,List.set_cons_zero];gi_wp2
  obtain⟨h1,h2,h3,h4,h5,h7,h8⟩:=HI.o;have PX:=ae W (Sx #[Bm Sj x.1.2.1,Bm Sj x.1.2.2] 49);refine HK.o _ _ ((KeepsOthers.alloc _ _).from _) (PX.mono WQ) ⟨v,(PX.block _ (aq h1)).trans h1,(PX.block _ (aq h2)).trans h2,h3.below PX,(PX.block _ (aq h4)).trans h4,h5.trans (PX.mono WQ),cA h6 PX.size,h7,h8⟩ ⟨W.1.size,b9 W _,h6,rfl⟩
 case body =>
  rintro lr pre x a' W aI _ ⟨v,h1,h2,h3,h4,h5,h6,h7,h8⟩ ⟨Br,k1,k2,rfl⟩ hlt;have e0:=aZ h2 0 _ lX;have HI:=aa (⟨h1,h2,h3,h4,h5,h7,h8⟩:_/\_/\_/\_/\_/\_/\_);replace k1:=aa k1;clear h1 h2 h3 h4 h5 h7 h8;by_cases hr0:r.Gc-jU (pre.map (·.1))<=0
  ·have g0:V7 (r.Gc-jU (pre.map (·.1))<=0)=VR:=eA hr0;have ak:=aa hr0;clear hr0;gi_wp2
   obtain⟨h1,h2,h3,h4,h5,h7,h8⟩:=HI.o;exact⟨KeepsFrom.refl _ _,rfl,pre,x,rfl,ak.o,v,h1,h2,h3,h4,h5,h6,h7,h8⟩
  have g0:V7 (r.Gc-jU (pre.map (·.1))<=0)=VN:=cN hr0;have ak:=aa hr0;clear hr0;gi_wp2
  obtain⟨i1,i2,i3,i4,i5,i7,i8⟩:=HI.o;obtain⟨aG,hy2,aJ⟩:=ay x.1 x.2;obtain⟨d,hd⟩:=aj g.Gb x.1.1 aG;have aK:=az pre WQ;refine Oz (ok:=fun b=>ok b/\b<b0) lr 1 W g a r v (b0+4) b0 (b0+1) Br x.1.1 d x.1.2 ((pre.map (·.1)).map (arN g)) i4 i1 k1.o i3 WQ (by simp only[fW];omega) ((ck.moves aO.moves).mv ⟨h6,fun b _ hb=>⟨hb,i5.block b hb.2⟩⟩ kf) hd WQ (aa ?_) (fun _ _ _ _ _ h=>h) (fun⟨_,_,h⟩=>h);intro v' W' u17 u18 u19 u20 u21 u22 u23 u24 ho ag a7 zc hos ah ai;have mA:∀b,v.ownBlock=Vv b->b0+4<=b:=fun b e=>(i3.ge e).1;have a8:W'.1[b0+2]?=Vv (Sx #[Bm Sj (r.Gc-jU (pre.map (·.1)))] 3 (0,0)):=(a7 _ WQ WQ (fun e=>by have:=mA _ e;omega)).trans i2;have au:W'.1[Br]?=Vv (Sx #[Bm Sj x.1.2.1,Bm Sj x.1.2.2] 49 (0,0)):=(a7 _ (aq k1.o) WQ (i3.notT k1.o YR)).trans k1.o;have e1:=aZ a8 0 _ lX;have ef:=wR a8 0;have r1:=aZ au 1 _ lX;have hw:IntKind.i64.wrap (r.Gc-jU (pre.map (·.1))-x.1.2.2)=r.Gc-jU (pre.map (·.1))-x.1.2.2:=dy _ (by have:=hq.e;omega);have HX:=aa (⟨i1,i2,i3,i4,i5,i7,i8,ho,ag,a7,hos,ah,ai,a8,hd⟩:_/\_/\_/\_/\_/\_/\_/\_/\_/\_/\_/\_/\_/\_/\_);clear i1 i2 i3 i4 i5 i7 i8 ho ag a7 hos ah ai a8 au hd
  gi_wp2
  obtain⟨i1,i2,i3,i4,i5,i7,i8,ho,ag,a7,hos,ah,ai,a8,hd⟩:=HX.o;have XO:∀(u:zY) k,k≠b0+2->(W'.setCell (XM (b0+2) 0) u).1[k]?=W'.1[k]?:=fun u k e=>bw _ _ _ _ e;have Ud:∀u:zY,(W'.setCell (XM (b0+2) 0) u).1.size=W'.1.size:=fun u=>by simp[AF]
  have PD:∀u:zY,Below b0 W (W'.setCell (XM (b0+2) 0) u):=fun u=>⟨hos,ah,ai,by rw[Ud];exact zc,fun b hb=>(XO u b WQ).trans (a7 b WQ WQ (fun e=>by have:=mA _ e;omega))⟩;refine⟨⟨by rw[Ud];exact zc,fun k o hk am hk2=>(XO _ k WQ).trans ((a7 k (ku am) WQ (i3.notObj am hk2)).trans am)⟩,PD _,v',(XO _ _ WQ).trans ag,?_,?_,(XO _ _ WQ).trans ((a7 _ WQ WQ (fun e=>by have:=mA _ e;omega)).trans i4),i5.trans (PD _),(by rw[Ud];exact cA h6 zc),?_,?_⟩
  ·have:=block_setCell (i:=0) (Bm Sj (r.Gc-jU (pre.map (·.1))-x.1.2.2)) a8;rw[gl,Lo,FZ,show r.Gc-(jU (pre.map (·.1))+x.1.2.2)=r.Gc-jU (pre.map (·.1))-x.1.2.2 by omega];exact this
  ·rw[gl,gl,Lo,Lo];have ha:arN g x.1=⟨VN,d.name,x.1.2.1⟩:=by unfold arN;rw[List.getD_eq_getElem?_getD,hd];rfl
   rw[ha];exact iC.keep (B:=b0+4) ho (by rw[Ud];exact bk _) fun k e=>XO _ k (by have:=(iC.ge ho e).1;omega)
  ·rw[gl,Lo];exact i7.snoc (by have:=ak.o;omega) _
  rw[cD,A4];exact hlt
 case done =>
  rintro D ys W hD rfl ⟨v,h1,h2,h3,h4,h5,h6,h7,h8⟩ hK;rw[Jw]at h2 h3 h7;have a9:=h7.done;exact HK.o D v (iU xs) W (by rw[a9]) h1 (by rw[a9];exact h2) h3 h5 h6 hD hK
 case stop =>
  rintro D c pre W hD ⟨aL,aH⟩ ⟨rfl,a5,x,rfl,h0,⟨v,h1,h2,h3,h4,h5,h6,h7,h8⟩⟩ hK;have a9:rA r.Gc (iU xs)=(a5.map (·.1),r.Gc-jU (a5.map (·.1))):=by
   have e1:=fj (List.map fun z:L8 xs=>z.1) aH;rw[Jw,cV,gl]at e1;exact(fj (rA r.Gc) e1.symm).trans (h7.stop h0)
  refine wpIn_exit ?_;exact aF.o D v (a5.map (·.1)) W (by rw[a9]) h1 (by rw[a9];exact h2) h3 h5 h6 hD hK
end
section
open Go.RowKit
variable {xs:wy RU}
def zb:∀(i:Nat) (xs:wy RU) (y:Nat × H5),y∈nU i xs->∃k x,xs[k]?=Vv x/\y.1=i+k/\y.2∈x
 |_,[],_,h=>by cases h
 |i,x :: r,y,h=>by
  rw[nU,oT]at h;rcases h with h|h
  ·obtain⟨p,hp,rfl⟩:=As.1 h;exact⟨0,x,rfl,rfl,hp⟩
  obtain⟨k,x',hk,e,hp⟩:=zb (i+1) r y h;exact⟨k+1,x',by simpa using hk,WQ,hp⟩
def LU(m:Nat):∀(i:Nat) (xs:wy RU),(∀x∈xs,x.length<=m)->(nU i xs).length<=xs.length*m
 |_,[],_=>by simp[nU]
 |i,x :: r,h=>by
  rw[nU,cD,fW,cS,P7,Nat.one_mul];have h1:=LU m (i+1) r (fun y hy=>h y (kn _ hy));have h2:=h x (cG ..);omega
structure Hw(n:Nat)(xs:wy RU):Prop where
 n8:n<=8
 len:xs.length=n
 x1:∀x∈xs,x.length<=4096
 yl:(iU xs).length<=100000
 yy:∀y∈iU xs,y.1<n/\0<=y.2.1/\1<=y.2.2/\y.2.1+y.2.2<=4096
def Nr:∀(l:wy (Nat × H5)),(∀y∈l,1<=y.2.2/\y.2.2<=4096)->0<=jU l/\jU l<=l.length*4096
 |[],_=>by simp[jU]
 |y :: l,h=>by
  have h1:=Nr l (fun z hz=>h z (kn _ hz));have h2:=h y (cG ..);simp only[jU,iu,List.sum_cons,cS]at h1 ⊢;omega
def Hw.sum{n:Nat}(h:Hw n xs)(pre:wy (L8 xs))(hp:pre.length<=(iU xs).length):0<=jU (pre.map (·.1))/\jU (pre.map (·.1))<=1000000000000:=by
 have h1:=Nr (pre.map (·.1)) (fun y hy=>by
  obtain⟨z,-,rfl⟩:=As.1 hy;have:=h.yy z.1 z.2;omega)
 have h2:=h.yl;rw[fW]at h1;omega
def Mw:∀(x:RU),(∀p∈x,1<=p.2)->(x.length:Int)<=ze x
 |[],_=>by simp[ze]
 |p :: x,h=>by
  have h1:=Mw x (fun q hq=>h q (kn _ hq));have h2:=h p cG;simp only[ze,iu,List.sum_cons,cS]at h1 ⊢;omega
def tK.runs(hp:E9 g)(h:tK g r xs)(hl:xs.length=Wq g.Gb):Hw (Wq g.Gb) xs:=by
 have hb:∀(i:Nat) (x:RU),xs[i]?=Vv x->x.length<=4096/\∀p∈x,0<=p.1/\1<=p.2/\p.1+p.2<=4096:=fun i x hx=>by
  obtain⟨d,hd⟩:=aj g.Gb i (by have:=(AT.1 hx).1;omega);obtain⟨h1,-,-⟩:=h i d x hd hx;have vu:=hp.de d (ct hd);have hS:∀n,kI g r d n->0<=n/\n<d.Gc:=fun n q=>(GG q).1;refine⟨?_,fun p a5=>?_⟩
  ·have a1:=Mw x h1.1.1;have a2:=h1.sum_bd vu.1 hS;omega
  have q1:=h1.1.1 p a5;have q2:=hS p.1 ((h1.2 p.1).1 ⟨p,a5,WQ,WQ⟩);have q3:=hS (p.1+p.2-1) ((h1.2 _).1 ⟨p,a5,WQ,WQ⟩);omega
 have a7:∀x∈xs,x.length<=4096:=fun x hx=>by
  obtain⟨i,hi⟩:=List.mem_iff_getElem?.1 hx;exact(hb i x hi).1
 have CD:=hp.dl;refine⟨CD,hl,a7,?_,fun y hy=>?_⟩
 ·have h2:(iU xs).length<=xs.length*4096:=LU 4096 0 xs a7;have h3:xs.length*4096<=8*4096:=tA _ WQ;omega
 obtain⟨k,x,hx,e,hy2⟩:=zb 0 xs y hy;have:=(AT.1 hx).1;have h4:=(hb k x hx).2 y.2 hy2;exact⟨WQ,h4⟩
def IP(e:Int)(o:Option (Nat × H5))(x:Nat × H5):Option (Nat × H5) :=
 if e<=x.2.2 then(match o with
  |none=>Vv x
  |some y=>if x.2.2<y.2.2 then Vv x else Vv y) else o
def uj(e:Int)(l:wy (Nat × H5)):Option (Nat × H5):=l.foldl (IP e) VX
def NQ(e:Int)(l:wy (Nat × H5))(x:Nat × H5):uj e (l++[x])=IP e (uj e l) x:=by simp[uj,List.foldl_append]
open Classical in
noncomputable def Pq(e:Int)(an:Bool)(cl:Nat->H6)(d:Nat):Nat->Int->Int->wy (Nat × Int)->wy (Nat × Int)
 |0,_,_,s=>s
 |f+1,st,n,s=>if e<=n/\(an=VR\/cl d ∉ s.map fun p=>cl p.1) then Pq e an cl d f (st+e) (n-e) (s++[(d,st)]) else s
open Go.Maps Go.Shelf
variable {y:Nat × H5}{xs:wy (wy aR)}{B:Nat}{w w':H7}{v:zY}{l:wy aR}{r:aY}
def N7{xs:wy RU}:y∈iU xs↔∃x,xs[y.1]?=Vv x/\y.2∈x:=by
 refine⟨fun h=>?_,fun⟨x,h1,h2⟩=>?_⟩
 ·obtain⟨k,x,h1,h2,h3⟩:=zb 0 xs y h;exact⟨x,by rw[h2,eJ];exact h1,h3⟩
 obtain⟨m,hm⟩:=fc h2;exact ct (LY h1 hm)
def Lj:∀(l:wy (Nat × H5)) (o:Option (Nat × H5)),(∀z,o=Vv z->e<=z.2.2)->l.foldl (IP e) o=Vv y ->
  (y∈l\/o=Vv y)/\e<=y.2.2/\(∀z∈l,e<=z.2.2->y.2.2<=z.2.2)/\∀z,o=Vv z->y.2.2<=z.2.2
 |[],o,ho,h=>⟨.inr h,ho y h,fun z hz=>by simp at hz,fun z hz=>by rw[show o=Vv y from h]at hz;injection hz with hz;rw[hz];omega⟩
 |x :: l,o,ho,h=>by
  rw[cF]at h;have hst:∀z,IP e o x=Vv z->e<=z.2.2:=fun z hz=>by
   unfold IP at hz;split at hz
   ·split at hz
    ·injection hz with hz;rw[<- hz];assumption
    split at hz
    ·injection hz with hz;rw[<- hz];assumption
    exact ho z hz
   exact ho z hz
  obtain⟨h1,h2,h3,h4⟩:=Lj l _ hst h;refine⟨?_,h2,?_,?_⟩
  ·rcases h1 with h1|h1
   ·exact .inl (kn _ h1)
   unfold IP at h1;split at h1
   ·split at h1
    ·injection h1 with h1;exact .inl (by rw[h1];exact cG)
    split at h1
    ·injection h1 with h1;exact .inl (by rw[h1];exact cG)
    exact .inr h1
   exact .inr h1
  ·intro z hz he;rcases DQ.1 hz with rfl|hz
   ·unfold IP at h4;rw[aw he]at h4;split at h4
    ·exact h4 z lX
    rename_i q;split at h4
    ·exact h4 z lX
    have:=h4 q lX;omega
   exact h3 z hz he
  rintro z rfl;unfold IP at h4;split at h4
  ·simp only at h4;split at h4
   ·have:=h4 x lX;omega
   exact h4 z lX
  exact h4 z lX
def iC.slice(h:iC B w v l):∃p n c,v=FG p n c:=by
 obtain⟨_,ho,_⟩:=h;rcases ho.2 with⟨rfl,_⟩|⟨g,cap,a5,rfl,_⟩
 ·exact⟨_,_,_,rfl⟩
 exact⟨_,_,_,rfl⟩
def mq(w:H7)(B:Nat)(v:zY)(xs:wy (wy aR)):Prop :=
 ∃vs:RH,w.ownsRow B 47 1 v xs.length vs/\vs.length=xs.length/\∀(i:Nat) (u:zY) (x:wy aR),vs[i]?=Vv u->xs[i]?=Vv x->iC B w u x
def mq.blk(h:mq w B v xs)(hz:w.1.size<=w'.1.size)(hk:∀(k:Nat) (cs:Array zY) (t:TypeId) (z:Nat × Nat),B<=k->w.1[k]?=Vv (Sx cs t z)->t=47/\v.ownBlock=Vv k\/t=53->w'.1[k]?=w.1[k]?):mq w' B v xs:=by
 obtain⟨vs,h1,h2,h3⟩:=h;refine⟨vs,aC h1 fun k e=>?_,h2,fun i u x hu hx=>?_⟩
 ·rcases h1.2 with⟨rfl,_⟩|⟨g,cap,a5,rfl,hb,XQ,_⟩
  ·cases e
  obtain rfl:g=k:=by injection e
  exact hk _ _ _ _ hb XQ (.inl ⟨rfl,rfl⟩)
 have ho:=h3 i u x hu hx;refine ho.keep hz fun k e=>?_;obtain⟨_,hw,_⟩:=ho;rcases hw.2 with⟨rfl,_⟩|⟨g,cap,a5,rfl,hb,XQ,_⟩
 ·cases e
 obtain rfl:g=k:=by injection e
 exact hk _ _ _ _ hb XQ (.inr lX)
def mq.below(h:mq w B v xs)(hb:Below w.1.size w w'):mq w' B v xs:=h.blk hb.size fun k cs t z _ hk _=>hb.block k (ku hk)
def mq.mono(h:mq w B v xs)(hB:B'<=B):mq w B' v xs:=by
 exact Tbu
def mq.cap(h:mq w B v xs):∃p c,v=FG p xs.length c/\xs.length<=c/\c<=9223372036854775807:=by
 exact Tbv
def mq.at{n:Nat}(h:mq w B (FG p n c) xs){x:wy aR}(hx:xs[k]?=Vv x) :
  ∃b u,p=Vv ⟨b,0,VX⟩/\B<=b/\b<w.1.size/\w.cell? ⟨b,k,VX⟩=Vv u/\iC B w u x:=by
 exact Tbd
def mq.one(hb:w.1[b]?=Vv (Sx #[u] 47 (0,0)))(hB:B<=b)(hu:iC B w u l):mq w B (FG (Vv b) 1 1) [l] :=
 ⟨[u],⟨rfl,.inr ⟨b,1,#[u],rfl,hB,hb,bk _,Tdh,rfl,rfl⟩⟩,rfl,fun i y x hy hx=>by
  match i,hy,hx with
  |0,hy,hx =>
   obtain rfl:=gj hy;obtain rfl:=gj hx;exact hu
  |i+1,hy,_=>simp at hy⟩
def iC.one{x:aR}(hb:w.1[b]?=Vv (Sx (Taw x) 53 (0,0)))(hB:B<=b):iC B w (FG (Vv b) 1 1) [x] :=
 ⟨[Ft x.vol,By x.on,Bm Sj x.start],⟨rfl,.inr ⟨b,1,_,rfl,hB,hb,bk _,Tdh,rfl,rfl⟩⟩,[Ft x.vol,By x.on,Bm Sj x.start],[],rfl,rfl,rfl,Tdj,rfl⟩
def Aw:az:=⟨⟨#[112,118,48]⟩,1,0,10,VN,VN,[]⟩
def O6:ay:=⟨⟨#[97]⟩,0,VN,VN,[],[⟨0,3,1,[⟨VN,⟨#[112,118,48]⟩,2⟩],0,[],⟨#[]⟩,⟨#[]⟩,0,0,0⟩]⟩
def pK:af:=⟨⟨#[118,103]⟩,0,0,1,0,[],[Aw],[O6],[]⟩
def LP:aY:=⟨1,1,4,4,⟨#[]⟩,⟨#[]⟩,⟨#[]⟩⟩
def Mt:aY:=⟨1,1,6,1,⟨#[]⟩,⟨#[]⟩,⟨#[]⟩⟩
def Ot:kP pK LP=0:=by kernel_rfl
def MU:kP pK Mt=0:=by kernel_rfl
def Oc:fM Aw.name Aw.Gc (pieces pK.F9)=[(2,3)]:=by
 have h:pieces pK.F9=[⟨⟨#[97]⟩,⟨#[112,118,48]⟩,2,3⟩]:=by kernel_rfl
 rw[h];rfl
def O9{x:RU}(hb:nD pK r Aw=VR)(hn:uM r=VN)(h:iE x (kI pK r Aw)):x=[(0,2),(5,5)]:=by
 refine h.eq (T:=kI pK r Aw) ⟨by constructor<;>decide,fun n=>?_⟩ fun _=>Iff.rfl;unfold kI;rw[hb,bh (by rw[hn];decide)];unfold xy;rw[Oc,ko,fK,ko];show _↔VR=VR/\(0<=n/\n<10)/\_;simp only[true_and];omega
def Nj{xs:wy RU}(hb:nD pK r Aw=VR)(hn:uM r=VN)(h:tK pK r xs)(hl:xs.length=1):xs=[[(0,2),(5,5)]]:=by
 match xs,hl with
 |[x],_=>rw[O9 hb hn (h 0 Aw x lX rfl).1]
def O3:nD pK LP Aw=VR:=by kernel_rfl
def OZ:nD pK Mt Aw=VR:=by kernel_rfl
attribute [local go_sem] Oper.semAt_some
def O8(ps:wy (wy aR))(ok:Bool)(w:H7)(e:Ending)(w':H7):Prop:=∃v,e=S6 (Vj #[v,ok])/\mq w' w.1.size v ps/\Below w.1.size w w'
def Mc(Q:N2):∃Q':N2,(∀e a w,Q' e a w->Q e a w)/\(∀a w,Q .normal a w->Q' .normal a w)/\∀c (a:Act) (d:Tmp) (v:zY) w,Q' (.panic c) (a.put (Vv d) v) w->Q' (.panic c) a w :=
 ⟨fun e a w=>e=.normal/\Q e a w,fun _ _ _ h=>h.2,fun _ _ h=>⟨rfl,h⟩,fun _ _ _ _ _ h=>nomatch h.1⟩
def Mr{c9:zY}(w:H7){Br:Nat}(vp:IH)(vn vc:Nat)(hl:w.1[Bl]?=Vv (Sx #[FG vp vn vc] 47 (0,0)))(hr:w.1[Br]?=Vv (Sx #[n] 3 (0,0)))
  (HK:Hid (∀(u29 a9 u31 u32:zY) (b:Nat) (W:H7),Below w.1.size w W->w.1.size<=b->W.1[b]?=Vv (Sx #[FG vp vn vc] 47 (0,0))->Q .normal ⟨#[c0,c1,FG (Vv b) 1 1,Ft (V7 (n<=0)),SL (Vv Bl),SL (Vv Br),c6,c7,c8,c9,c10,ZS,ao,Sf,TO,RK,RW,Rr,SO,Se,St,W0,ZD,Wg,Wr,To,UP,aE,ab,u29,a9,u31,u32],ds⟩ W)) :
  (Ai Tryz.f22 9).wp prog Q ⟨#[c0,c1,c2,c3,SL (Vv Bl),SL (Vv Br),c6,c7,c8,c9,c10,ZS,ao,Sf,TO,RK,RW,Rr,SO,Se,St,W0,ZD,Wg,Wr,To,UP,aE,ab,eS,da,dj,dq],ds⟩ w:=by
 conv=>arg 2;whnf
 obtain⟨Q',a8,a7,hQ⟩:=Mc Q;replace a7:=aa a7;refine wp_mono ?_ a8;clear a8;have HS:Hid (∀w':H7,Below w.1.size w w'->w'.cell? Bl=Vv (FG vp vn vc)/\w'.cell? Br=Vv (Bm Sj n)):=aa fun w' e=>⟨aZ ((e.block _ (aq hl)).trans hl) 0 _ lX,aZ ((e.block _ (aq hr)).trans hr) 0 _ lX⟩;clear hl hr;refine gW (fun w'=>w'.cell? Bl=Vv (FG vp vn vc)/\w'.cell? Br=Vv (Bm Sj n)) 6 [] Yp (HS.o _ (bj _ _).drew) (fun a5=>?_);refine cH hQ 0 a5 ?_;refine cH hQ 2 a5 ?_;refine cH hQ 3 a5 ?_;refine lR 1 fun K hK=>?_;go_simp;have hb2:Below w.1.size w (w.drew.alloc (Sx #[FG vp vn vc] 47)):=(bj w.1.size w).drew.alloc (bk _) _;refine hK.o _ _ (HS.o _ hb2) ?_;clear hK K a5;have a5:=HS.o _ hb2;replace hb2:=aa hb2;refine cH hQ 4 a5 ?_;refine cH hQ 5 a5 ?_;clear hb2;refine aP Yp lX ?_;simp only[cQ,cL,km];go_wp2;exact a7.o _ _ (HK.o _ _ _ _ _ _ ((bj w.1.size w).alloc (bk _) _).drew (bk _) (b9 w _))
def TcW(h:gt:=by
 ·exact eK.o.trans (H4.o.trans ((J1.o.mono WQ).trans (belowK_b (w:=w) (bk _) W9 D _ _ WQ hK9 lX rfl)))):=h
def TcU(h:gt:=by
 have ho:=H3.o.below J1.o;exact mq.one ((Q1 b hbl WQ).trans HN9.o) WQ ((ho.keep (by simp[World.putObj]) fun k e=>Q1 k (ho.ge e).2 fun q=>ho.notObj hK9 lX (q ▸ e)).mono WQ)):=h
def Ta6(h:gt:=by
 intro D v l W hpl h1 h2 h3 h4 h5 h6 hK;obtain⟨vp,vn,vc,rfl⟩:=h3.slice;have hKl:=ku hK;have HK:=aa hK;clear hK;have H1:=aa h1;clear h1;have H2:=aa h2;clear h2;have H3:=aa h3;clear h3;have H4:=aa h4;clear h4;have RL:=aa hpl;clear hpl;go_upto_region 9 with(fail);refine Mr W vp vn vc H1.o H2.o (aa ?_);intro u29 u30 u31 u32 b W9 hb9 hbz hn9;have hK9:=(hb9.block D hKl).trans HK.o;have J1:=aa hb9;clear hb9;have HN9:=aa hn9;clear hn9;go_wp2;refine⟨XN,.inl ⟨_,_,rfl,run_takeDeferred hK9,?_⟩⟩;refine⟨Vj #[FG (Vv b) 1 1,Ft (V7 ((rA r.Gc (iU xs)).2<=0))],by simp[results,Tryz.results22,go_sem],?_⟩;have hz9:=J1.o.size;have Q1:∀k,k<W9.1.size->k≠D->(W9.putObj D (.deferred VX)).1[k]?=W9.1[k]?:=fun k hk hne=>(grownBy_putObj' W9 D _).block k hk (fun q=>by injection q with q;exact hne q)
 have hbl:=aq HN9.o;refine⟨_,rfl,?_,?_⟩
 ·rw[RL.o];exact TcU
 exact TcW):=h
def Tdq(h:gt:=by show w.1.size<=w.1.size+2;omega):=h
def L6{ok:LN}(g:af)(a:iX)(r:aY)(px:IH)(cx:Nat)(xs:wy RU)(w:H7)(hq:A7 r)(kf:ck aO 7 ok w [FG a.dp (Wq g.Gb) a.dc] g.Gb)(hx:Hw (Wq g.Gb) xs)(ai:xs.length<=cx/\cx<=9223372036854775807)(hr:ug w.1.size w px xs):Calls prog 22 #[Tk (Taf g a r xs.length px cx)] w (O8 [((rA r.Gc (iU xs)).1).map (arN g)] (V7 ((rA r.Gc (iU xs)).2<=0)) w):=by
 refine callsIn_wide (n:=3) |>.1 ?_;refine callsIn_of_wp_marks func22 lX trivial ?_ lX;simp only[ntmps22,List.size_toArray,cS,ux,Nat.reduceAdd,Nat.reduceSub,Array.replicate_succ,Array.replicate_zero,List.push_toArray,List.append_toArray,GO,IT];refine wpIn_wide.2 ?_;have hA1:=ae w (Sx (Taf g a r xs.length px cx) 78);have US:=b9 w (Sx (Taf g a r xs.length px cx) 78);generalize RE:w.alloc (Sx (Taf g a r xs.length px cx) 78)=W1 at *;have R0:W1.1.size=w.1.size+1:=by rw[<- RE];exact cW ..
 have hA2:=ae W1 (Sx #[FG VX 0 0] 47);have sC:=b9 W1 (Sx #[FG VX 0 0] 47);generalize aj:W1.alloc (Sx #[FG VX 0 0] 47)=W2 at *;have RC:W2.1.size=w.1.size+2:=by rw[<- aj,cW,R0]
 have hA3:=ae W2 (Sx #[Bm Sj 0] 3);have ab:=b9 W2 (Sx #[Bm Sj 0] 3);generalize ak:W2.alloc (Sx #[Bm Sj 0] 3)=W3 at *;have am:W3.1.size=w.1.size+3:=by rw[<- ak,cW,RC]
 rw[R0]at sC;rw[RC]at ab;have cJ:=aa (hA1.trans ((hA2.mono WQ).trans (hA3.mono WQ)));have a7:=aa ((hA3.block _ WQ).trans ((hA2.block _ WQ).trans US));have QP:=aa ((hA3.block _ WQ).trans sC);have a8:=aa ab;have ZS:=aZ ((hA2.block _ WQ).trans US) 11 _ lX;have ag:=aZ a7.o 11 _ lX;have t3:=aZ a7.o;have r3:=aZ a8.o 0 _ lX;have rf:=wR a8.o 0;replace kf:=aa kf;have HX:=aa hx;clear hx;replace hr:=aa hr;clear hA1 hA2 hA3 US sC ab;go_upto_region 3 with(fail);have XO:∀k,k≠w.1.size+2->(W3.setCell (XM (w.1.size+2) 0) (Bm Sj r.Gc)).1[k]?=W3.1[k]?:=fun k e=>bw _ _ _ _ e;have Q9:=aa ((XO _ WQ).trans a7.o);have WC:=aa ((XO _ WQ).trans QP.o);have WD:=aa (block_setCell (i:=0) (Bm Sj r.Gc) a8.o);have eI:=aa (cJ.o.setCell (p:=⟨w.1.size+2,0,VX⟩) Tdq (Bm Sj r.Gc));have ah:(W3.setCell (XM (w.1.size+2) 0) (Bm Sj r.Gc)).1.size=w.1.size+3:=by simp[AF,am]
 clear XO r3 rf ZS ag t3 a7 QP a8 cJ;generalize ao:AF W3 _ _=W4 at *;clear ao;have tL:=aZ Q9.o;obtain⟨t0,t1,t2,t3,t4,t5,t6,t7,t8,t9,au,av⟩:=IE tL;have aw:=tL 12 _ lX;have ay:=tL 13 _ lX;have az:=tL 14 _ lX;have aA:=tL 15 _ lX;have aB:=tL 16 _ lX;clear tL;go_wp2_with fail;clear t0 t1 t2 t3 t4 t5 t6 t7 t8 t9 au av aw ay az aA aB;refine(Mf g a r W4).mono ?_;rintro e w5 ⟨rfl,rfl⟩;have a5:=ae W4 (Sx (Taf g a r xs.length px cx) 78);have a9:=b9 W4 (Sx (Taf g a r xs.length px cx) 78);have aC:(W4.alloc (Sx (Taf g a r xs.length px cx) 78)).1.size=w.1.size+4:=by rw[cW,ah]
 rw[ah]at a9;have eK:=aa (eI.o.trans (a5.mono WQ));have aD:=aa ((a5.block _ WQ).trans Q9.o);have aE:=aa ((a5.block _ WQ).trans WC.o);have aF:=aa ((a5.block _ WQ).trans WD.o);replace a9:=aa a9;clear a5 Q9 WC WD eI;rw[ah];generalize aG:AI W4 _=W5 at *;clear aG;go_wp2;refine NS (ok:=ok) g a r px cx w.1.size xs W5 aC hq ((ck.moves aO.moves).mv ⟨eK.o.size,fun b hb ho=>⟨⟨ho,hb⟩,eK.o.block b hb⟩⟩ kf.o) (by have:=HX.o.n8;omega) HX.o.len ai (hr.o.below eK.o) (fun x hx=>by have:=HX.o.x1 x hx;omega) HX.o.yl (fun y hy=>by have:=HX.o.yy y hy;omega) HX.o.sum a9.o aD.o aE.o aF.o (aa ?_) (aa ?_)
 ·exact Ta6
 exact Ta6
end
section
variable {c2 c3 c9 ZS ao Sf TO RK RW Rr SO Se St W0 ZD Wg Wr To UP aE ab eS da dj dq fs gE ff fb fa mT me c6:zY}{b0:Nat}{g:af}
attribute [local go_sem] Oper.semAt_some
def Ps(w:H7)(a:IH)(n c:Nat):(binOp .eql 47 (FG a n c) (FG VX 0 0)).run prog w=.ok (Ft a.isNone) w:=run_eql_slice_nil w _ _ a n c underlying47
def Po(w:H7)(a:IH)(n c:Nat):(binOp .neq 47 (FG a n c) (FG VX 0 0)).run prog w=.ok (Ft (!a.isNone)) w:=run_neq_slice_nil w _ _ a n c underlying47
attribute [local go_sem] Ps Po
def Mi{ok:LN}(lr nn:Nat)(w:H7)(g:af)(a:iX)(r:aY)(Bt Bl Be Br k:Nat)(d:az)(p:H5)(hne:Bl≠Be)
  (ht:w.1[Bt]?=Vv (Sx (Taj g a r pv) 78 (0,0))) (hl:w.1[Bl]?=Vv (Sx #[v] 47 (0,0))) (he:w.1[Be]?=Vv (Sx #[n] 3 (0,0))) (hr:w.1[Br]?=Vv (Sx #[Bm Sj p.1,Bm Sj p.2] 49 (0,0)))
  (kf:ck aO 7 ok w [FG a.dp (Wq g.Gb) a.dc] g.Gb) (hd:g.Gb[k]?=Vv d) (CD:Wq g.Gb<=1000000)
  (HK:Hid (∀(W':H7) (b:Nat) (u28 u29 ai u31 u32 u33 u34 u35:zY),w.1.size<=b->W'.1[b]?=Vv (Sx (Tat d.name p.1) 53 (0,0))->W'.1[Bl]?=Vv (Sx #[FG (Vv ⟨b,0,VX⟩) 1 1] 47 (0,0))->W'.1[Be]?=Vv (Sx #[Bm Sj p.2] 3 (0,0))->(∀b,b<w.1.size->b≠Bl->b≠Be->W'.1[b]?=w.1[b]?)->w.1.size<=W'.1.size->W'.os=w.os->W'.tape=w.tape->W'.output=w.output->Q .normal ⟨#[c0,SL (Vv Bt),c2,c3,SL (Vv Bl),SL (Vv Be),Bm Sj (k:Int),SL (Vv Br),c8,c9,c10,ZS,ao,Sf,TO,RK,RW,Rr,SO,Se,St,W0,ZD,Wg,Wr,To,UP,aE,u28,u29,ai,u31,u32,u33,u34,u35,fb,fa,mT,me],[]⟩ W'))
  (hQ:∀c (a:Act) (d:Tmp) (v:zY) w,Q (.panic c) (a.put (Vv d) v) w->Q (.panic c) a w) (aj:¬LetsOut Q) :
  (O5 Tryz.f23 7).wpIn (Fence.wide.inRound lr) nn prog Q ⟨#[c0,SL (Vv Bt),c2,c3,SL (Vv Bl),SL (Vv Be),Bm Sj (k:Int),SL (Vv Br),c8,c9,c10,ZS,ao,Sf,TO,RK,RW,Rr,SO,Se,St,W0,ZD,Wg,Wr,To,UP,aE,ab,eS,da,dj,dq,fs,gE,ff,fb,fa,mT,me],[]⟩ w:=by
 conv=>arg 4;whnf
 have hn1:Bt≠Bl:=fun e=>by
  subst e;rw[ht]at hl;injection hl with hl;injection hl with _ h2 _;exact absurd h2 YR
 have hn2:Br≠Bl:=fun e=>by
  subst e;rw[hr]at hl;injection hl with hl;injection hl with _ h2 _;exact absurd h2 YR
 have ak:=aq ht;have hbl:=aq hl;have Qu:=aq he;have am:=aq hr;have HL:=aa hl;have HE:=aa he;replace kf:=aa kf;replace hd:=aa hd;have HS:Hid (∀w':H7,Below w.1.size w w'->w'.1[Bt]?=Vv (Sx (Taj g a r pv) 78 (0,0))/\w'.1[Br]?=Vv (Sx #[Bm Sj p.1,Bm Sj p.2] 49 (0,0))):=aa fun w' e=>⟨(e.block _ ak).trans ht,(e.block _ am).trans hr⟩;clear ht hl hr he;refine F4 (fun w'=>w'.1[Bt]?=Vv (Sx (Taj g a r pv) 78 (0,0))/\w'.1[Br]?=Vv (Sx #[Bm Sj p.1,Bm Sj p.2] 49 (0,0))) 9 [] Yp aj Yp (HS.o _ (bj _ _).drew) (fun a5=>?_)
 (refine o7 (i:=0) (v:=?_) lX rfl Yp (fun _ _ _ h=>hQ _ _ _ _ _ h) (Or.inl ⟨ZR,?_⟩) a5 ?_;rotate_left;(intro w fi;have s0:=aZ fi.1 0 _ lX;have s1:=aZ fi.1 1 _ lX;have s2:=aZ fi.1 2 _ lX;have s3:=aZ fi.1 3 _ lX;have s4:=aZ fi.1 4 _ lX;have s5:=aZ fi.1 5 _ lX;have s6:=aZ fi.1 6 _ lX;have s7:=aZ fi.1 7 _ lX;have s8:=aZ fi.1 8 _ lX;have s9:=aZ fi.1 9 _ lX;have ay:=aZ fi.1 10 _ lX;have aA:=aZ fi.1 11 _ lX;have aB:=aZ fi.1 12 _ lX;have aC:=aZ fi.1 13 _ lX;have aD:=aZ fi.1 14 _ lX;have aF:=aZ fi.1 15 _ lX;have aG:=aZ fi.1 16 _ lX;clear fi;go_simp;(try(with_reducible rfl)));(try simp only[aS]))
 refine cH hQ 1 a5 ?_;refine cH hQ 2 a5 ?_;(refine o7 (i:=3) (v:=?_) lX rfl Yp (fun _ _ _ h=>hQ _ _ _ _ _ h) (Or.inl ⟨ZR,?_⟩) a5 ?_;rotate_left;(intro w fi;have r0:=aZ fi.2 0 _ lX;clear fi;go_simp;(try(with_reducible rfl)));(try simp only[aS]))
 refine cH hQ 6 a5 ?_;(refine o7 (i:=7) (v:=?_) lX rfl Yp (fun _ _ _ h=>hQ _ _ _ _ _ h) (Or.inl ⟨ZR,?_⟩) a5 ?_;rotate_left;(intro w fi;have r1:=aZ fi.2 1 _ lX;clear fi;go_simp;(try(with_reducible rfl)));(try simp only[aS]))
 refine lR 4 fun K hK=>?_;go_simp;refine(Np (ok:=ok) g a r pv k p.1 d w.drew ((ck.moves aO.moves).mv ⟨bk _,fun b _ hb=>⟨hb,rfl⟩⟩ kf.o) hd.o CD).mono ?_;rintro e w6 ⟨rfl,sh⟩;have a7:Below w.1.size w w6:=⟨sh.os,sh.tape,sh.output,sh.size,sh.block⟩;refine hK.o _ _ (HS.o _ a7) ?_;clear hK K a5;replace a7:=aa a7;clear sh;have a5:=HS.o _ a7.o;have G2:=ae w6 (Sx (Tat d.name p.1) 53);have pL:=YS a7 G2;have au:=aa (b9 w6 (Sx (Tat d.name p.1) 53));clear G2;refine lR 5 fun K hK=>?_;go_simp;refine hK.o _ _ (HS.o _ pL.o) ?_;clear hK K a5;have av:=a7.o.size;generalize aw:AI w6 _=w7 at *;generalize aH:w6.1.size=b7 at *;clear aw;have a8:=(pL.o.block _ hbl).trans HL.o;have a9:=(pL.o.block _ Qu).trans HE.o;have z0:=aZ a8 0 _ lX;have zf:=wR a8;have y0:∀V:zY,(w7.setCell Bl V).cell? Be=Vv (Bm Sj n):=fun V=>aZ ((bw _ _ _ _ (fun e=>hne e.symm)).trans a9) 0 _ lX;have yf:∀(V:zY) (i:Nat),(w7.setCell Bl V).frozen? (Be,i)=VN:=fun V=>wR ((bw _ _ _ _ (fun e=>hne e.symm)).trans a9);have HF:Hid (∀V X:zY,((w7.setCell Bl V).setCell Be X).1[Bl]?=Vv (Sx #[V] 47 (0,0))/\((w7.setCell Bl V).setCell Be X).1[Be]?=Vv (Sx #[X] 3 (0,0))/\∀k,k≠Bl->k≠Be->((w7.setCell Bl V).setCell Be X).1[k]?=w7.1[k]?):=aa fun V X=>⟨(bw _ _ _ _ hne).trans (block_setCell (i:=0) V a8),block_setCell (i:=0) X ((bw _ _ _ _ (fun e=>hne e.symm)).trans a9),fun k h1 h2=>(bw _ _ _ _ h2).trans (bw _ _ _ _ h1)⟩;have ah:b7≠Bl/\b7≠Be:=⟨WQ,WQ⟩;have Qc:=aa ah;have Zu:Hid (∀V X:zY,((w7.setCell Bl V).setCell Be X).1.size=w7.1.size):=aa fun V X=>by simp[AF]
 have ag:∀V:zY,(w7.setCell Bl V).1[Bt]?=Vv (Sx (Taj g a r pv) 78 (0,0))/\(w7.setCell Bl V).1[Br]?=Vv (Sx #[Bm Sj p.1,Bm Sj p.2] 49 (0,0)):=fun V=>⟨(bw _ _ _ _ hn1).trans (HS.o _ pL.o).1,(bw _ _ _ _ hn2).trans (HS.o _ pL.o).2⟩;replace ag:=aa ag;clear a8 a9 ah;refine lR 8 fun K hK=>?_;go_simp;refine hK.o _ _ (ag.o _) ?_;clear hK K z0 zf;refine aP Yp lX ?_;simp only[cQ,cL,km];go_wp2;refine HK.o _ b7 _ _ _ _ _ _ _ _ av ((((HF.o _ _).2.2 _ Qc.o.1 Qc.o.2)).trans au.o) (HF.o _ _).1 (HF.o _ _).2.1 (fun b hb h1 h2=>((HF.o _ _).2.2 b h1 h2).trans (pL.o.block b hb)) (by rw[Zu.o];exact pL.o.size) pL.o.os pL.o.tape pL.o.output
def NU(e:Int)(x:Nat × H5):IP e VX x=if e<=x.2.2 then Vv x else VX:=rfl
def Nw(e:Int)(y x:Nat × H5):IP e (Vv y) x=if e<=x.2.2 then(if x.2.2<y.2.2 then Vv x else Vv y) else Vv y:=rfl
def O1(h:¬e<=x.2.2):IP e o x=o:=bh h
def WhV(b0:Nat)(g:af)(W:H7)(v:zY)(n:Int):Option (Nat × H5)->Prop
 |none=>v=FG VX 0 0/\n=0
 |some y=>∃b,v=FG (Vv ⟨b,0,VX⟩) 1 1/\b0+4<=b/\W.1[b]?=Vv (Sx (Tat ((arN g y).on) y.2.1) 53 (0,0))/\n=y.2.2
def WhI(g:af)(a:iX)(r:aY)(px:IH)(cx b0:Nat)(xs:wy RU)(W5:H7)(pre:wy (L8 xs))(W:H7):Prop:=∃v n,W.1[b0+1]?=Vv (Sx #[v] 47 (0,0))/\W.1[b0+2]?=Vv (Sx #[Bm Sj n] 3 (0,0))/\WhV b0 g W v n (uj r.Gc (pre.map (·.1)))/\W.1[b0]?=Vv (Sx (Taf g a r xs.length px cx) 78 (0,0))/\Below b0 W5 W/\W5.1.size<=W.1.size/\pre.length<=(iU xs).length
def WhV.mv{W':H7}(h:WhV b0 g W v n o)(hk:∀(b:Nat) (cs:Array zY),b0+4<=b->W.1[b]?=Vv (Sx cs 53 (0,0))->W'.1[b]?=W.1[b]?):WhV b0 g W' v n o:=by
 cases o with
 |none=>exact h
 |some y =>
  obtain⟨b,h1,h2,h3,h4⟩:=h;exact⟨b,h1,h2,(hk b _ h2 h3).trans h3,h4⟩
def WhI.own(a5:W5.1.size=b0+4):OwnFrom W5.1.size (WhI g a r px cx b0 xs W5):=by
 rintro pre W W' row ⟨v,n,h1,h2,h3,h4,h5,h6,h7⟩ hg hr;exact⟨v,n,xu hg hr h1,xu hg hr h2,h3.mv fun b cs _ hb=>(xu hg hr hb).trans hb.symm,xu hg hr h4,h5.grown hg WQ (fun k e=>by have:=(hr k e).1;omega),cA h6 hg.size,h7⟩
def Nt{ok:LN}(g:af)(a:iX)(r:aY)(px:IH)(cx b0:Nat)(xs:wy RU)(W5:H7)(a9:W5.1.size=b0+4)(hq:A7 r)(kf:ck aO 7 (fun b=>ok b/\b<b0) W5 [FG a.dp (Wq g.Gb) a.dc] g.Gb)(hx:Hw (Wq g.Gb) xs)(ah:xs.length<=cx/\cx<=9223372036854775807)
  (hr:ug b0 W5 px xs)
  (ai:W5.1[b0+3]?=Vv (Sx (Taf g a r xs.length px cx) 78 (0,0))) (ak:W5.1[b0]?=Vv (Sx (Taf g a r xs.length px cx) 78 (0,0))) (am:W5.1[b0+1]?=Vv (Sx #[FG VX 0 0] 47 (0,0))) (au:W5.1[b0+2]?=Vv (Sx #[Bm Sj 0] 3 (0,0)))
  (HK:Hid (∀(D:Nat) (v:zY) (n:Int) (W:H7),W.1[b0+1]?=Vv (Sx #[v] 47 (0,0))->WhV b0 g W v n (uj r.Gc (iU xs))->Below b0 W5 W->W5.1.size<=W.1.size->W5.1.size<=D->W.1[D]?=Vv (.deferred (Vv []))->Q .normal ⟨#[c0,SL (Vv b0),c2,c3,SL (Vv (XM (b0+1) 0)),SL (Vv (XM (b0+2) 0)),c6,c7,c8,.func (.func 96) #[] #[SL (Vv (XM (b0+3) 0))],c10,ZS,ao,Sf,TO,RK,RW,Rr,SO,Se,St,W0,ZD,Wg,Wr,To,UP,aE,ab,eS,da,dj,dq,fs,gE,ff,fb,fa,mT,me],[{ target:=.collected D,args:=#[] }]⟩ W)) :
  (MW Tryz.f23).wp prog Q ⟨#[c0,SL (Vv b0),c2,c3,SL (Vv (XM (b0+1) 0)),SL (Vv (XM (b0+2) 0)),c6,c7,c8,.func (.func 96) #[] #[SL (Vv (XM (b0+3) 0))],c10,ZS,ao,Sf,TO,RK,RW,Rr,SO,Se,St,W0,ZD,Wg,Wr,To,UP,aE,ab,eS,da,dj,dq,fs,gE,ff,fb,fa,mT,me],[]⟩ W5:=by
 conv=>arg 2;whnf
 refine(wpIn_wide (n:=3)).1 ?_;have aF:=hx.n8;have vh:=hx.len;refine wpIn_rangeFunc_ownH (F:=Fence.wide) lX WQ (gf:=96) (lb:=#[SL (Vv (XM (b0+3) 0))]) lX trivial (enters_of func96 Yp lX)
  (Bo (3-1) b0 (b0+3) WQ W5 px cx xs (aZ ai 16 _ lX) ah WQ WQ hr WQ (fun x av=>by have:=hx.x1 x av;omega))
  Below.trans (fun W l o o' hl h h1 h2=>belowK_b (w:=W5) WQ W l o o' hl h h1 h2) (bj _ _) (fun _=>rfl)
  (WhI g a r px cx b0 xs W5)
  (fun _ _ _=>False) ?own (fun _ _ _ _ _ h _ _=>h) ?init
  (fun x a' W=>∃Br,W.1[Br]?=Vv (Sx #[Bm Sj x.1.2.1,Bm Sj x.1.2.2] 49 (0,0))/\W5.1.size<=Br/\a'=⟨#[c0,SL (Vv b0),c2,c3,SL (Vv (XM (b0+1) 0)),SL (Vv (XM (b0+2) 0)),Bm Sj (x.1.1:Int),SL (Vv ⟨Br,0,VX⟩),c8,.func (.func 96) #[] #[SL (Vv (XM (b0+3) 0))],Bm Sj (x.1.1:Int),Tk #[Bm Sj x.1.2.1,Bm Sj x.1.2.2],ao,Sf,TO,RK,RW,Rr,SO,Se,St,W0,ZD,Wg,Wr,To,UP,aE,ab,eS,da,dj,dq,fs,gE,ff,fb,fa,mT,me],[]⟩) ?ax ?assign ?body ?done ?stop
 case own=>exact WhI.own a9
 case init=>exact⟨FG VX 0 0,0,am,au,⟨rfl,rfl⟩,ak,bj _ _,bk _,cg _⟩
 case ax =>
  rintro x a' _ W W' row ⟨Br,h1,h2,h3⟩ hg hr;exact⟨Br,xu hg hr h1,h2,h3⟩
 case assign =>
  rintro l pre x W K ⟨v,n,h1,h2,h3,h4,h5,h6,h7⟩ hK;have HI:=aa (⟨h1,h2,h3,h4,h5,h7⟩:_/\_/\_/\_/\_/\_);clear h1 h2 h3 h4 h5 h7;have HK:=aa hK;clear hK;simp only[OI,List.zip_toArray,List.zip_cons_cons,List.zip_nil_right,List.foldl_toArray,cF,cq,xT,List.set_cons_succ,List.set_cons_zero];gi_wp2
  obtain⟨h1,h2,h3,h4,h5,h7⟩:=HI.o;have PX:=ae W (Sx #[Bm Sj x.1.2.1,Bm Sj x.1.2.2] 49);refine HK.o _ _ ((KeepsOthers.alloc _ _).from _) (PX.mono WQ) ⟨v,n,(PX.block _ (aq h1)).trans h1,(PX.block _ (aq h2)).trans h2,h3.mv fun b cs _ hb=>PX.block b (aq hb),(PX.block _ (aq h4)).trans h4,h5.trans (PX.mono WQ),cA h6 PX.size,h7⟩ ⟨W.1.size,b9 W _,h6,rfl⟩
 case body =>
  rintro lr pre x a' W aG _ ⟨v,n,h1,h2,h3,h4,h5,h6,h7⟩ ⟨Br,k1,k2,rfl⟩ hlt;have e0:=aZ h2 0 _ lX;have l0:=aZ h1 0 _ lX;have aH:=aZ h4 11 _ lX;have r1:=aZ k1 1 _ lX;obtain⟨ay,hy2,aI,aJ⟩:=hx.yy x.1 x.2;obtain⟨d,hd⟩:=aj g.Gb x.1.1 ay;have TK:Hid (uj r.Gc ((pre++[x]).map (·.1))=IP r.Gc (uj r.Gc (pre.map (·.1))) x.1):=aa (by rw[gl,Lo,NQ]);have TW:(pre++[x]).length<=(iU xs).length:=by rw[cD,A4];exact hlt
  have ha:arN g x.1=⟨VN,d.name,x.1.2.1⟩:=by unfold arN;rw[List.getD_eq_getElem?_getD,hd];rfl
  have HIN:Hid (∀(W':H7) (b:Nat),uj r.Gc ((pre++[x]).map (·.1))=Vv x.1->W.1.size<=b->W'.1[b]?=Vv (Sx (Tat d.name x.1.2.1) 53 (0,0))->W'.1[b0+1]?=Vv (Sx #[FG (Vv ⟨b,0,VX⟩) 1 1] 47 (0,0))->W'.1[b0+2]?=Vv (Sx #[Bm Sj x.1.2.2] 3 (0,0))->(∀b,b<W.1.size->b≠b0+1->b≠b0+2->W'.1[b]?=W.1[b]?)->W.1.size<=W'.1.size->W'.os=W.os->W'.tape=W.tape->W'.output=W.output->KeepsFrom W5.1.size W W'/\Below b0 W W'/\WhI g a r px cx b0 xs W5 (pre++[x]) W'):=aa fun W' b hs hbz hb az aA a8 zc hos aB aC=>by
   have PD:Below b0 W W':=⟨hos,aB,aC,zc,fun k hk=>a8 k WQ WQ WQ⟩;refine⟨⟨zc,fun k o hk ag hk2=>(a8 k (ku ag) WQ WQ).trans ag⟩,PD,_,_,az,aA,?_,(a8 _ WQ WQ WQ).trans h4,h5.trans PD,cA h6 zc,TW⟩;rw[hs];exact⟨b,rfl,WQ,by rw[ha];exact hb,rfl⟩
  have a7:Hid (uj r.Gc ((pre++[x]).map (·.1))=uj r.Gc (pre.map (·.1))->KeepsFrom W5.1.size W W/\Below b0 W W/\WhI g a r px cx b0 xs W5 (pre++[x]) W):=aa fun hs=>⟨KeepsFrom.refl _ _,bj _ _,v,n,h1,h2,by rw[hs];exact h3,h4,h5,h6,TW⟩;have HX:=aa (⟨h1,h2,h4,k1,hd,h5⟩:_/\_/\_/\_/\_/\_);clear h1 h2 h4 k1 hd h5 ha TW a9
  by_cases c1:r.Gc<=x.1.2.2
  ·have g1:V7 (x.1.2.2 ≥ r.Gc)=VR:=eA c1;replace c1:=aa c1;cases ho:uj r.Gc (pre.map (·.1))with
   |none =>
    rw[ho]at h3 TK;have a5:=aa ((NU r.Gc x.1).trans (aw c1.o));obtain⟨rfl,rfl⟩:=h3;clear a7 ho;gi_wp2
    obtain⟨i1,i2,i4,ik,id,i5⟩:=HX.o;refine Mi (ok:=fun b=>ok b/\b<b0) lr 1 W g a r b0 (b0+1) (b0+2) Br x.1.1 d x.1.2 WQ i4 i1 i2 ik ((ck.moves aO.moves).mv ⟨h6,fun b _ hb=>⟨hb,i5.block b hb.2⟩⟩ kf) id WQ (aa ?_) (fun _ _ _ _ _ h=>h) (fun⟨_,_,h⟩=>h);intro W' b u28 u29 aD u31 u32 u33 u34 u35 f1 f2 f3 f4 f5 f6 f7 f8 f9;exact HIN.o W' b (by rw[TK.o,a5.o]) f1 f2 f3 f4 f5 f6 f7 f8 f9
   |some y =>
    rw[ho]at h3 TK a7;have a5:=aa ((Nw r.Gc y x.1).trans (aw c1.o));obtain⟨b,rfl,hb,cT,rfl⟩:=h3;by_cases c2:x.1.2.2<y.2.2
    ·have g2:V7 (x.1.2.2<y.2.2)=VR:=eA c2;have HW2:Hid (uj r.Gc ((pre++[x]).map (·.1))=Vv x.1):=aa (by rw[TK.o,a5.o];exact aw c2);clear a7 a5 TK ho c2;gi_wp2
     obtain⟨i1,i2,i4,ik,id,i5⟩:=HX.o;refine Mi (ok:=fun b=>ok b/\b<b0) lr 1 W g a r b0 (b0+1) (b0+2) Br x.1.1 d x.1.2 WQ i4 i1 i2 ik ((ck.moves aO.moves).mv ⟨h6,fun b _ hb=>⟨hb,i5.block b hb.2⟩⟩ kf) id WQ (aa ?_) (fun _ _ _ _ _ h=>h) (fun⟨_,_,h⟩=>h);intro W' b u28 u29 aD u31 u32 u33 u34 u35 f1 f2 f3 f4 f5 f6 f7 f8 f9;exact HIN.o W' b HW2.o f1 f2 f3 f4 f5 f6 f7 f8 f9
    have g2:V7 (x.1.2.2<y.2.2)=VN:=cN c2;have HW2:Hid (uj r.Gc ((pre++[x]).map (·.1))=Vv y):=aa (by rw[TK.o,a5.o];exact bh c2);clear HIN a5 TK ho c2;gi_wp2
    exact a7.o HW2.o
  have g1:V7 (x.1.2.2 ≥ r.Gc)=VN:=cN c1;have a5:=aa (TK.o.trans (O1 c1));clear c1 HIN;gi_wp2
  exact a7.o a5.o
 case done =>
  rintro D ys W hD rfl ⟨v,n,h1,h2,h3,h4,h5,h6,h7⟩ hK;rw[Jw]at h3;exact HK.o D v n W h1 h3 h5 h6 hD hK
 case stop =>
  rintro D c pre W _ _ h _;exact h.elim
def OA:Option Nat->zY
 |none=>FG VX 0 0
 |some b=>FG (Vv b) 1 1
def OL(w:H7)(o:Option Nat)(hl:w.1[Bl]?=Vv (Sx #[OA o] 47 (0,0)))
  (HK:Hid (∀(u36 u37 u38 u39:zY) (b:Nat) (W:H7),Below w.1.size w W->w.1.size<=b->W.1[b]?=Vv (Sx #[OA o] 47 (0,0))->Q .normal ⟨#[c0,c1,FG (Vv b) 1 1,Ft o.isSome,SL (Vv Bl),c5,c6,c7,c8,c9,c10,ZS,ao,Sf,TO,RK,RW,Rr,SO,Se,St,W0,ZD,Wg,Wr,To,UP,aE,ab,eS,da,dj,dq,fs,gE,ff,u36,u37,u38,u39],ds⟩ W)) :
  (Ai Tryz.f23 8).wp prog Q ⟨#[c0,c1,c2,c3,SL (Vv Bl),c5,c6,c7,c8,c9,c10,ZS,ao,Sf,TO,RK,RW,Rr,SO,Se,St,W0,ZD,Wg,Wr,To,UP,aE,ab,eS,da,dj,dq,fs,gE,ff,fb,fa,mT,me],ds⟩ w:=by
 conv=>arg 2;whnf
 obtain⟨Q',a8,a7,hQ⟩:=Mc Q;replace a7:=aa a7;refine wp_mono ?_ a8;clear a8;cases o
 all_goals
  have hbl:=aq hl;simp only[OA,Option.isSome_none,Option.isSome_some]at hl HK;have HS:Hid (∀w':H7,Below w.1.size w w'->w'.1[Bl]?=w.1[Bl]?):=aa fun w' e=>e.block _ hbl;replace hl:=aa hl;refine gW (fun w'=>w'.1[Bl]?=w.1[Bl]?) 6 [] Yp (HS.o _ (bj _ _).drew) (fun a5=>?_)
  (refine o7 (i:=0) (v:=?_) lX rfl Yp (fun _ _ _ h=>hQ _ _ _ _ _ h) (Or.inl ⟨ZR,?_⟩) a5 ?_;rotate_left;(intro w fi;have r0:=aZ (fi.trans hl.o) 0 _ lX;clear fi;go_simp;(try(with_reducible rfl)));(try simp only[aS]))
  (refine o7 (i:=2) (v:=?_) lX rfl Yp (fun _ _ _ h=>hQ _ _ _ _ _ h) (Or.inl ⟨ZR,?_⟩) a5 ?_;rotate_left;(intro w fi;have r0:=aZ (fi.trans hl.o) 0 _ lX;clear fi;go_simp;(try(with_reducible rfl)));(try simp only[aS]))
  refine cH hQ 3 a5 ?_;refine lR 1 fun K hK=>?_;go_simp;refine hK.o _ _ (HS.o _ ((bj w.1.size w).drew.alloc (bk _) _)) ?_;clear hK K a5
  (refine o7 (i:=4) (v:=?_) lX rfl Yp (fun _ _ _ h=>hQ _ _ _ _ _ h) (Or.inl ⟨ZR,?_⟩) (HS.o _ ((bj w.1.size w).drew.alloc (bk _) _)) ?_;rotate_left;(intro w fi;go_simp;(try(with_reducible rfl)));(try simp only[aS]))
  (refine o7 (i:=5) (v:=?_) lX rfl Yp (fun _ _ _ h=>hQ _ _ _ _ _ h) (Or.inl ⟨ZR,?_⟩) (HS.o _ ((bj w.1.size w).drew.alloc (bk _) _)) ?_;rotate_left;(intro w fi;go_simp;(try(with_reducible rfl)));(try simp only[aS]))
  refine aP Yp lX ?_;simp only[cQ,cL,km];go_wp2;exact a7.o _ _ (HK.o _ _ _ _ _ _ ((bj w.1.size w).alloc (bk _) _).drew (bk _) (b9 w _))
def Ml{ok:LN}(g:af)(a:iX)(r:aY)(px:IH)(cx:Nat)(xs:wy RU)(w:H7)(hq:A7 r)(kf:ck aO 7 ok w [FG a.dp (Wq g.Gb) a.dc] g.Gb)(hx:Hw (Wq g.Gb) xs)(aj:xs.length<=cx/\cx<=9223372036854775807)(hr:ug w.1.size w px xs):Calls prog 23 #[Tk (Taf g a r xs.length px cx)] w (O8 [((uj r.Gc (iU xs)).toList).map (arN g)] (uj r.Gc (iU xs)).isSome w):=by
 refine callsIn_wide (n:=3) |>.1 ?_;refine callsIn_of_wp_marks func23 lX trivial ?_ lX;simp only[ntmps23,List.size_toArray,cS,ux,Nat.reduceAdd,Nat.reduceSub,Array.replicate_succ,Array.replicate_zero,List.push_toArray,List.append_toArray,GO,IT];refine wpIn_wide.2 ?_;have hA1:=ae w (Sx (Taf g a r xs.length px cx) 78);have US:=b9 w (Sx (Taf g a r xs.length px cx) 78);generalize RE:w.alloc (Sx (Taf g a r xs.length px cx) 78)=W1 at *;have R0:W1.1.size=w.1.size+1:=by rw[<- RE];exact cW ..
 have hA2:=ae W1 (Sx #[FG VX 0 0] 47);have sC:=b9 W1 (Sx #[FG VX 0 0] 47);generalize ak:W1.alloc (Sx #[FG VX 0 0] 47)=W2 at *;have RC:W2.1.size=w.1.size+2:=by rw[<- ak,cW,R0]
 have hA3:=ae W2 (Sx #[Bm Sj 0] 3);have a9:=b9 W2 (Sx #[Bm Sj 0] 3);generalize am:W2.alloc (Sx #[Bm Sj 0] 3)=W3 at *;have ao:W3.1.size=w.1.size+3:=by rw[<- am,cW,RC]
 rw[R0]at sC;rw[RC]at a9;have cJ:=aa (hA1.trans ((hA2.mono WQ).trans (hA3.mono WQ)));have ah:=aa ((hA3.block _ WQ).trans ((hA2.block _ WQ).trans US));have QP:=aa ((hA3.block _ WQ).trans sC);have a7:=aa a9;have r3:=aZ a7.o 0 _ lX;have rf:=wR a7.o 0;replace kf:=aa kf;replace hx:=aa hx;replace hr:=aa hr;clear hA1 hA2 hA3 US sC a9;go_upto_region 3 with(fail);have XO:∀k,k≠w.1.size+2->(W3.setCell (XM (w.1.size+2) 0) (Bm Sj 0)).1[k]?=W3.1[k]?:=fun k e=>bw _ _ _ _ e;have Q9:=aa ((XO _ WQ).trans ah.o);have WC:=aa ((XO _ WQ).trans QP.o);have WD:=aa (block_setCell (i:=0) (Bm Sj 0) a7.o);have eI:=aa (cJ.o.setCell (p:=⟨w.1.size+2,0,VX⟩) Tdq (Bm Sj 0));have ab:(W3.setCell (XM (w.1.size+2) 0) (Bm Sj 0)).1.size=w.1.size+3:=by simp[AF,ao]
 clear XO r3 rf ah QP a7 cJ;generalize au:AF W3 _ _=W4 at *;clear au;have tL:=aZ Q9.o;have t0:=IE tL;have ay:=tL 12 _ lX;have az:=tL 13 _ lX;have aA:=tL 14 _ lX;have aB:=tL 15 _ lX;have aC:=tL 16 _ lX;clear tL;go_wp2_with fail;clear t0 ay az aA aB aC;refine(Mf g a r W4).mono ?_;rintro e w5 ⟨rfl,rfl⟩;have a5:=ae W4 (Sx (Taf g a r xs.length px cx) 78);have a8:=b9 W4 (Sx (Taf g a r xs.length px cx) 78);have aD:(W4.alloc (Sx (Taf g a r xs.length px cx) 78)).1.size=w.1.size+4:=by rw[cW,ab]
 rw[ab]at a8;have eK:=aa (eI.o.trans (a5.mono WQ));have aE:=aa ((a5.block _ WQ).trans Q9.o);have aF:=aa ((a5.block _ WQ).trans WC.o);have aG:=aa ((a5.block _ WQ).trans WD.o);replace a8:=aa a8;clear a5 Q9 WC WD eI;rw[ab];generalize aH:AI W4 _=W5 at *;clear aH;go_wp2;refine Nt (ok:=ok) g a r px cx w.1.size xs W5 aD hq ((ck.moves aO.moves).mv ⟨eK.o.size,fun b hb ho=>⟨⟨ho,hb⟩,eK.o.block b hb⟩⟩ kf.o) hx.o aj (hr.o.below eK.o) a8.o aE.o aF.o aG.o (aa ?_);intro D v n W h1 h3 h4 h5 h6 hK;obtain⟨o,rfl,hos,gR⟩:∃o:Option Nat,v=OA o/\o.isSome=(uj r.Gc (iU xs)).isSome/\iC (w.1.size+4) W (OA o) (((uj r.Gc (iU xs)).toList).map (arN g)):=by
  cases ho:uj r.Gc (iU xs)with
  |none =>
   rw[ho]at h3;obtain⟨rfl,-⟩:=h3;exact⟨VX,rfl,rfl,iC.nil _ _⟩
  |some y =>
   rw[ho]at h3;obtain⟨b,rfl,hb,cT,-⟩:=h3;exact⟨Vv b,rfl,rfl,iC.one (x:=arN g y) cT hb⟩
 clear h3;have aI:=ku hK;replace hK:=aa hK;replace h1:=aa h1;have H3:=aa gR;clear gR;have H4:=aa h4;clear h4;replace hos:=aa hos;go_upto_region 8 with(fail);refine OL W o h1.o (aa ?_);intro u36 u37 u38 u39 b W9 ag hbz ai;have hK9:=(ag.block D aI).trans hK.o;have J1:=aa ag;clear ag;have HN9:=aa ai;clear ai;go_wp2;refine⟨XN,.inl ⟨_,_,rfl,run_takeDeferred hK9,?_⟩⟩;refine⟨Vj #[FG (Vv b) 1 1,Ft o.isSome],by simp[results,Tryz.results23,go_sem],?_⟩;have aJ:=J1.o.size;have Q1:∀k,k<W9.1.size->k≠D->(W9.putObj D (.deferred VX)).1[k]?=W9.1[k]?:=fun k hk hne=>(grownBy_putObj' W9 D _).block k hk (fun q=>by injection q with q;exact hne q)
 have hbl:=aq HN9.o;rw[hos.o];refine⟨_,rfl,?_,?_⟩
 ·exact TcU
 exact TcW
end
section
def fH.runs{n:Nat}(h:fH w B (FG px n cx) xs)(hn:w.1.size<=n₀):ug n₀ w px xs:=fun k x hx=>by
 obtain⟨b,u,h1,-,h3,h4,h5⟩:=h.at hx;obtain⟨p,c,rfl,a5,a7,a8⟩:=h5.rd;refine⟨b,p,c,h1,WQ,h4,a5,a7,fun h0=>?_⟩;obtain⟨b',off,e1,e2,e3⟩:=a8 h0;exact⟨b',off,e1,WQ,e3⟩
attribute [local go_sem] Oper.semAt_some
noncomputable def uR(g:af)(r:aY)(xs:wy RU):wy (wy aR) × Bool :=
 if LA r=1 then([((uj r.Gc (iU xs)).toList).map (arN g)],(uj r.Gc (iU xs)).isSome)
 else([((rA r.Gc (iU xs)).1).map (arN g)],V7 ((rA r.Gc (iU xs)).2<=0))
noncomputable def Eb(g:af)(r:aY)(xs:wy RU):Int:=if kP g r=0 then(if(uR g r xs).2=VR then 0 else 14) else kP g r
def OT(g:af)(r:aY)(w:H7)(e:Ending)(w':H7):Prop :=
 ∃v xs,e=S6 (Vj #[v,Bm Sj (Eb g r xs)])/\Below w.1.size w w'/\tK g r xs/\(xs.length=if kP g r=0 then Wq g.Gb else 0)/\(¬Eb g r xs=0->v=FG VX 0 0)/\(Eb g r xs=0->mq w' w.1.size v (uR g r xs).1)
def Og{ok:LN}(Q:N2)(c0 c1 c2 c3 c4 c5 c7 c9 c10 ZS ao Sf TO RK RW Rr SO Se St W0 ZD Wg Wr To UP aE ab eS da dj dq fs gE ff fb fa:zY)(w:H7)(g:af)(a:iX)(r:aY)(px:IH)(cx:Nat)(xs:wy RU){Bt Bf:Nat}(hq:A7 r)(a8:ck aO 7 ok w [FG a.dp (Wq g.Gb) a.dc] g.Gb)(sB:Hw (Wq g.Gb) xs)(aj:xs.length<=cx/\cx<=9223372036854775807)(ah:fH w B (FG px xs.length cx) xs)
  (ht:w.1[Bt]?=Vv (Sx (Taf g a r xs.length px cx) 78 (0,0))) (hf:w.1[Bf]?=Vv (Sx #[.func (.func 22) #[Tk (Taf g a r xs.length px cx)] #[],.func (.func 23) #[Tk (Taf g a r xs.length px cx)] #[],.func (.func 24) #[Tk (Taf g a r xs.length px cx)] #[]] 82 (0,0))) (aG:r.Gi*r.Gh=1)
  (HK:Hid (∀(u27 u28 u29 am u31 u32 u33 u34:zY) (v:zY) (W':H7),mq W' w.1.size v (uR g r xs).1->Below w.1.size w W'->Q .normal ⟨#[c0,c1,c2,c3,c4,c5,SL (Vv Bt),c7,SL (Vv Bf),v,Ft (uR g r xs).2,ZS,ao,Sf,TO,RK,RW,Rr,SO,Se,St,W0,ZD,Wg,Wr,To,UP,u27,u28,u29,am,u31,u32,u33,u34,ff,fb,fa],[]⟩ W')) :
  (Ai Tryz.f7 5).wp prog Q ⟨#[c0,c1,c2,c3,c4,c5,SL (Vv Bt),c7,SL (Vv Bf),c9,c10,ZS,ao,Sf,TO,RK,RW,Rr,SO,Se,St,W0,ZD,Wg,Wr,To,UP,aE,ab,eS,da,dj,dq,fs,gE,ff,fb,fa],[]⟩ w:=by
 conv=>arg 2;whnf
 have a9:=Mg g a r (FG px xs.length cx) w hq;obtain⟨i,hi,hi2⟩:∃i:Nat,LA r=(i:Int)/\(i=0\/i=1):=by
  unfold LA;rw[bh WQ];split
  ·exact⟨1,rfl,.inr lX⟩
  exact⟨0,rfl,.inl lX⟩
 rw[hi]at a9;replace a9:=aa a9;have tL:=aZ ht;have t0:=IE tL;have ay:=tL 12 _ lX;have az:=tL 13 _ lX;have aA:=tL 14 _ lX;have aB:=tL 15 _ lX;have aC:=tL 16 _ lX;clear tL;replace hf:=aa hf;clear ht;replace ah:=aa ah;have Zi:=aa a8;clear a8;go_wp2_with fail;refine a9.o.mono ?_;rintro e ae ⟨rfl,a5⟩;have hn:=(a5.block _ (aq hf.o)).trans hf.o;clear t0 ay az aA aB aC a9;have q:∃Qj,ae.cell? (Bf,i)=Vv (.func (.func Qj) #[Tk (Taf g a r xs.length px cx)] #[])/\(∀(l:Array zY) (W:H7),Sem.run prog (callFunc Qj l) W=.ok (.enter Qj l) W)/\Calls prog Qj #[Tk (Taf g a r xs.length px cx)] ae (O8 (uR g r xs).1 (uR g r xs).2 ae):=by
  have a8:=(ck.moves aO.moves).mv (Mv.of a5) Zi.o;have Um:=(ah.o.below a5).runs (bk _);rcases hi2 with rfl|rfl
  ·refine⟨22,cr hn _ _ lX,fun l W=>by go_simp,?_⟩;rw[show uR g r xs=_ from bh (by rw[hi];decide)];exact L6 g a r px cx xs ae hq a8 sB aj Um
  refine⟨23,cr hn _ _ lX,fun l W=>by go_simp,?_⟩;rw[show uR g r xs=_ from aw hi];exact Ml g a r px cx xs ae hq a8 sB aj Um
 obtain⟨Qj,f0,ak,hc⟩:=q;have aH:i<3:=by omega
 have HFN:=aa ak;have HC:=aa hc;replace a5:=aa a5;clear hn ak hc hi hi2 ah hf;go_wp2_with fail;rw[HFN.o];refine HC.o.mono ?_;rintro e aD ⟨v,rfl,ho,ag⟩;have a7:=a5.o.size;have ai:=aa (ho.mono a7);have aF:=aa (a5.o.trans (ag.mono a7));clear ho ag HC f0;go_wp2;exact HK.o _ _ _ _ _ _ _ _ v aD ai.o aF.o
def BS{ok:LN}(g:af)(a:iX)(r:aY)(w:H7)(hg:dN ok w g a)(av:GOk g)(hr:dK r)(hS:AW w)(aF:r.Gi*r.Gh=1):Calls prog 7 #[Tk (Zg g a),Tk (Tam r)] w (OT g r w):=by
 have hA1:=ae w (Sx (Zg g a) 31);have US:=b9 w (Sx (Zg g a) 31);generalize RE:w.alloc (Sx (Zg g a) 31)=W1 at *;have hA2:=ae W1 (Sx (Tam r) 34);have sC:=b9 W1 (Sx (Tam r) 34);have R0:W1.1.size=w.1.size+1:=by rw[<- RE];exact cW ..
 generalize ai:W1.alloc (Sx (Tam r) 34)=W2 at *;have RC:W2.1.size=w.1.size+2:=by rw[<- ai,cW,R0]
 have HB:=aa (hA1.trans (hA2.mono WQ));have ay:=aa ((hA2.block _ WQ).trans US);have Lz:=aa sC;rw[R0]at Lz;clear hA1 hA2 US sC;have gL:=aZ ay.o;have g0:=xr gL;have qL:=aZ Lz.o;have q0:=se qL;clear gL qL;have HP:=aa (IJ g a r W2 (hg.mv (Mv.of HB.o)) av hr (hS.below HB.o));have Zi:=aa hg.Gb;clear hg hS;go_enter func7,ntmps7
 go_wp2_with fail;clear g0 q0
 try simp only[RE,ai]
 clear RE ai;refine HP.o.mono ?_;clear HP;intro e w8 hp;obtain⟨xv,xs,rfl,aj,Zs,vh,az⟩:=hp;have Ix:=YS HB az;obtain⟨px,cx,rfl,aG,aH⟩:=aj.cap;have PW:=aa aj;have ah:=aa Zs;replace vh:=aa vh;clear az aj Zs ay Lz HB;have ak:=ae w8 (Sx (Taf g a r xs.length px cx) 78);have HN9:=aa (b9 w8 (Sx (Taf g a r xs.length px cx) 78));have J1:=YS Ix ak;have aI:=aa (PW.o.below ak);clear ak PW;have tL:=aZ HN9.o;have t0:=IE tL;have aL:=tL 12 _ lX;have aM:=tL 13 _ lX;have aN:=tL 14 _ lX;have aP:=tL 15 _ lX;have aQ:=tL 16 _ lX;clear tL;by_cases Mu:kP g r=0
 ·have hne:(kP g r != 0)=VN:=by rw[Mu];rfl
  have a8:Hid (Eb g r xs=if(uR g r xs).2=VR then 0 else 14):=aa (aw Mu);have HPE:=aa Mu;rw[aw Mu]at vh;have hq:=A7.of Mu;have am:(mchk g).2=0:=by
   unfold kP at Mu;split at Mu
   ·assumption
   rename_i hm;exact absurd Mu hm
  have aR:=(Dg am).2.1;have yi:=aa (tK.runs (Fb av.gi am) ah.o vh.o);clear am aR;rw[Mu]at hne;rw[Mu];clear Mu;have a5:=ae (w8.alloc (Sx (Taf g a r xs.length px cx) 78)) (Sx #[.func (.func 22) #[Tk (Taf g a r xs.length px cx)] #[],.func (.func 23) #[Tk (Taf g a r xs.length px cx)] #[],.func (.func 24) #[Tk (Taf g a r xs.length px cx)] #[]] 82);have aA:=aa (b9 (w8.alloc (Sx (Taf g a r xs.length px cx) 78)) (Sx #[.func (.func 22) #[Tk (Taf g a r xs.length px cx)] #[],.func (.func 23) #[Tk (Taf g a r xs.length px cx)] #[],.func (.func 24) #[Tk (Taf g a r xs.length px cx)] #[]] 82));have Ax:=YS J1 a5;have aS:=aa (aI.o.below a5);have aT:=Zl a5 HN9;clear a5;go_upto_region 5 with(fail);clear t0 aL aM aN aP aQ;generalize aq:AI (AI w8 _) _=W10 at *;rw[cW]at aA;clear aq;have aB:Hid (∀(Q:N2) (c0 c1 c2 c3 c4 c5 c7 c9 c10 ZS ao Sf TO RK RW Rr SO Se St W0 ZD Wg Wr To UP aE ab eS da dj dq fs gE ff fb fa:zY),Hid (∀(u27 u28 u29 aC u31 u32 u33 u34:zY) (v:zY) (W':H7),mq W' W10.1.size v (uR g r xs).1->Below W10.1.size W10 W'->Q .normal ⟨#[c0,c1,c2,c3,c4,c5,SL (Vv w8.1.size),c7,SL (Vv (XM (w8.1.size+1) 0)),v,Ft (uR g r xs).2,ZS,ao,Sf,TO,RK,RW,Rr,SO,Se,St,W0,ZD,Wg,Wr,To,UP,u27,u28,u29,aC,u31,u32,u33,u34,ff,fb,fa],[]⟩ W')->(Ai Tryz.f7 5).wp prog Q ⟨#[c0,c1,c2,c3,c4,c5,SL (Vv w8.1.size),c7,SL (Vv (XM (w8.1.size+1) 0)),c9,c10,ZS,ao,Sf,TO,RK,RW,Rr,SO,Se,St,W0,ZD,Wg,Wr,To,UP,aE,ab,eS,da,dj,dq,fs,gE,ff,fb,fa],[]⟩ W10):=aa (by
   intro Q c0 c1 c2 c3 c4 c5 c7 c9 c10 ZS ao Sf TO RK RW Rr SO Se St W0 ZD Wg Wr To UP aE ab eS da dj dq fs gE ff fb fa HK;have aU:=(ck.moves aO.moves).mv (Mv.of Ax.o) Zi.o;exact Og (ok:=ok) Q c0 c1 c2 c3 c4 c5 c7 c9 c10 ZS ao Sf TO RK RW Rr SO Se St W0 ZD Wg Wr To UP aE ab eS da dj dq fs gE ff fb fa W10 g a r px cx xs hq aU yi.o ⟨aG,aH⟩ aS.o aT.o aA.o aF HK)
  have a7:=Ax.o.size;refine aB.o _ _ _ _ _ _ _ _ _ _ _ _ _ _ _ _ _ _ _ _ _ _ _ _ _ _ _ _ _ _ _ _ _ _ _ _ _ (aa ?_);intro u27 u28 u29 aC u31 u32 u33 u34 v aV ho a9;obtain⟨pv,cv,rfl,-,-⟩:=ho.cap;have au:=aa (ho.mono a7);have aD:=aa (Ax.o.trans (a9.mono a7));clear ho a9 aB;cases hk:(uR g r xs).2 with
  |true =>
   have ag:Hid (Eb g r xs=0):=aa (by rw[a8.o,hk];rfl);clear hk;go_wp2;go_ret2;exact(show OT g r w _ _ from⟨FG pv _ cv,xs,by rw[ag.o];rfl,aD.o,ah.o,by rw[HPE.o];exact vh.o,fun h=>absurd ag.o h,fun _=>au.o⟩)
  |false =>
   have ag:Hid (Eb g r xs=14):=aa (by rw[a8.o,hk];rfl);clear hk;go_wp2;go_ret2;exact(show OT g r w _ _ from⟨FG VX 0 0,xs,by rw[ag.o];rfl,aD.o,ah.o,by rw[HPE.o];exact vh.o,fun _=>rfl,fun h=>by rw[ag.o]at h;cases h⟩)
 have hne:(kP g r != 0)=VR:=by simpa using Mu
 have a8:Hid (Eb g r xs=kP g r):=aa (bh Mu);have HPE:=aa Mu;clear Mu;go_wp2;go_ret2;exact(show OT g r w _ _ from⟨FG VX 0 0,xs,by rw[a8.o];rfl,J1.o,ah.o,vh.o,fun _=>rfl,fun h=>absurd (a8.o.symm.trans h) HPE.o⟩)
end
end Go.Proofs.YtfmbphdjcghfnaaGreatDoor
