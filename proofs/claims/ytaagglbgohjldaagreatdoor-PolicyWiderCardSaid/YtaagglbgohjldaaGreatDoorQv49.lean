/- Lemmas: RgT. -/
import Derived.Test.YtaagglbgohjldaaGreatDoorQv46
import Derived.Test.YtaagglbgohjldaaGreatDoorQv48
set_option maxRecDepth 100000
set_option maxHeartbeats 32000000
set_option linter.all false
namespace Go.Proofs.YtaagglbgohjldaaGreatDoor
open Go.Proofs.Tryz
open Go.RowKit Go.Maps Go.Shelf
variable {ext st:Int}{s:aB}
structure K5 (g:af):Prop where
 gi:NL g
 hd:qX g=0
 dk:∀ (k:Nat) (d:az),g.Gb[k]?=some d->pg g k d=0
 vo:∀ (k:Nat) (v:ay),g.F9[k]?=some v->yH g k v=0
 ex:1<=g.Gd/\g.Gd<=1024
 sg:∀ v∈g.F9,∀ (k:Nat) (s:aB),v.Gf[k]?=some s->bJ g.Gd s (Cw (v.Gf.take k))=true/\(1<v.Gf.length->(oO s.kind).several=true)
 sz:∀ v∈g.F9,∀ s∈v.Gf,Ah s
 re:∀ v∈g.F9,∀ s∈v.Gf,mM g v s=0
 si:∀ v∈g.F9,∀ s∈v.Gf,CX g s=true
 lb:Cu g
 pf:E9 g
 row:∀ (i k:Nat) (p q:gy),k<i->(pieces g.F9)[i]?=some p->(pieces g.F9)[k]?=some q->p.disk=q.disk->q.start+q.len<=p.start
 pos:∀ p∈pieces g.F9,(0<=p.start/\p.start<=1000000)/\1<=p.len/\p.len<=1000000
 thin:∀ (i k:Nat) (v x:ay) (s t:aB),k<i->g.F9[i]?=some v->g.F9[k]?=some x->v.Gf=[s]->x.Gf=[t]->s.kind=6->t.kind=6->s.pool≠t.pool\/s.device≠t.device
 us:∀ v∈g.F9,(v.hidden=true->iJ (Ci g.F9) v.name=1)/\(v.hidden=false->iJ (Ci g.F9) v.name=yx v.name g.F9/\(yx v.name g.F9=0\/eZ v=5))
 ul:∀ v∈g.F9,(kY v).length<=100000
 vs:∀ v∈g.F9,v.Gf.length<=64
theorem sU.ckIn {g:af}(h:sU g):K5 g:=by
 have hm:=h.mchk;have hi:=h.gin;obtain ⟨h1,h2,h3,h4,h5,h6,h7,h8⟩:=Dg hm;obtain ⟨r1,r2⟩:=iT h1;have hsz:=mZ h4;refine ⟨hi,h1,fun k d hd=>?_,fun k v hv=>?_,⟨r1.2.2.1,r1.2.2.2.1⟩,fun v hv k s hs=>Kv h4 hv hs,hsz,Dh h5,fun v hv s hs=>?_,Cg h3 h4,Fb hi hm,JQ h,JN h,
  fun i k v x s t hki hv hx hs ht h6 h6'=>JY h7 hki hv hx hs ht h6 h6',fun v hv=>KT hm hv,fun v hv=>?_,fun v hv=>(nH h3 v hv).2.2.2⟩
 ·have:=ll (i:=0) h2 k d hd;rwa [eJ] at this
 ·have:=ll (i:=0) h3 k v hv;rwa [eJ] at this
 ·have:(v,s)∈aA g.F9:=List.mem_flatMap.2 ⟨v,hv,List.mem_map.2 ⟨s,hs,rfl⟩⟩;obtain ⟨a,b,e⟩:=List.append_of_mem this;have:=Hd h6 a b v s e;unfold xh at this;split at this
  ·assumption
  cases this
 have:=lY rQ 8 v.Gf fun s hs=>cA (Cb s) (by have:=(hsz v hv s hs).fm.ar;omega)
 have h64:=(nH h3 v hv).2.2.2;unfold kY;omega
theorem Kg (k:Int)(w:World)(hf:bJ ext s st=true)(h:(oO s.kind).several=true)(hk:k=s.kind:=by rfl) :
  Calls prog 77 #[.int .i64 k] w fun e w'=>e=.returned (.bool true)/\Below w.heap.size w w':=by
 subst hk;obtain ⟨x,hx,-⟩:=DD hf;refine (JF s.kind x w hx).mono ?_;rintro e w' ⟨rfl,rfl⟩;unfold oO at h;rw [hx] at h;exact ⟨by rw [show x.several=true from h],bj _ _⟩
theorem JH (h:bJ ext s st=true):(s.kind=5->s.Ga.length<=2)/\(s.kind=7->s.Ga.length<=3)/\(¬ s.kind=3->s.log.toList.isEmpty=true):=by
 obtain ⟨x,hx,-,-,⟨-,h2⟩,-,-,hl,-⟩:=DD h;refine ⟨fun k=>?_,fun k=>?_,fun k=>?_⟩
 ·rw [k] at hx;injection hx with hx;subst hx;dsimp only at h2;omega
 ·rw [k] at hx;injection hx with hx;subst hx;dsimp only at h2;omega
 have:x.log=false:=by
  rcases pM hx with q | q | q | q | q | q | q | q | q | q
  all_goals first | exact absurd q k | (rw [q] at hx;injection hx with hx;subst hx;rfl)
 rwa [this,nj] at hl
theorem Tb2 {p:Prop}(h:p:=by
 go_wp2;go_roundw;exact ⟨j+1,TcC,TcG,LX.o⟩;simp [intOf];omega):p:=h
theorem Tcw {p:Prop}(h:p:=by
 go_wp2;go_roundw;exact ⟨i+1,TcC,TcG,Uu.o⟩;simp [intOf];omega):p:=h
theorem TbM {p:Prop}(h:p:=by
 ·clear Mj MI;exact Tcw):p:=h
theorem Ta6 {p:Prop}(h:p:=by
 have gL:=mi Mj.o;obtain ⟨g0,g1,g2,g3,g4,g5,g6,g7,g8⟩:=xr gL;clear gL;clear Mj MI hd;go_wp2_with fail;clear g0 g1 g2 g3 g4 g5 g6 g7 g8;refine HCL.o.mono ?_;clear HCL;rintro e w5 ⟨rfl,hb5⟩;have eK:=Zbl HB hb5;clear hb5;exact TcB):p:=h
theorem Tbf {p:Prop}(h:p:=by
 have LX:=Zbl Tq kq;have s1:=mi ((kq.block _ (aq aw6.o)).trans aw6.o) 1 _ rfl;clear kq;go_wp2;go_roundw;exact ⟨j+1,TcC,TcG,by rw [HSN.o],LX.o⟩;simp [intOf];omega):p:=h
theorem Ko {ok:Nat->Prop}(g:af)(a:bN)(w:World)(hg:dN ok w g a)(hc:K5 g) :
  Calls prog 36 #[.agg (Tad g a)] w fun e w'=>e=.returned (.tuple #[.string ⟨#[]⟩,.int .i64 0])/\Below w.heap.size w w':=by
 have HC:=aa hc;have CD:g.Gb.length<=1000000:=hc.gi.sz.dl;have mb:g.F9.length<=1000000:=hc.gi.sz.vl;clear hc;have hA1:=ae w (.cells (Tad g a) 31);have Ml:=aa (b9 w (.cells (Tad g a) 31));have HG1:=aa (hg.mv (Mv.of hA1));have HW1:=aa hA1;clear hg hA1;go_enter func36,ntmps36
 go_upto_region 1 with (fail);generalize World.alloc w _=W1 at *;generalize hE:w.heap.size=Bg at Ml ⊢;clear hE;have gL:=mi Ml.o;obtain ⟨g0,g1,g2,g3,g4,g5,g6,g7,g8⟩:=xr gL;clear gL;go_wp2_with fail;clear g0 g1 g2 g3 g4 g5 g6 g7 g8;refine (Kj g a W1 HG1.o HC.o.gi.tx).mono ?_;rintro e w2 ⟨rfl,hb2⟩;rw [HC.o.hd];have HX0:=aa hb2;have g6:=mi ((hb2.block _ (aq Ml.o)).trans Ml.o) 6 _ rfl;clear hb2;go_wp2;clear g6;go_loopw [5] (fun i wr=>∃ k:Nat,k<=g.Gb.length/\i=.int .i64 k/\Below W1.heap.size W1 wr) (fun i _=>g.Gb.length - (intOf i).toNat)
 exact ⟨0,cg _,rfl,HX0.o⟩;obtain ⟨k,hk,rfl,hB⟩:=hrel;have HB:=aa hB;clear hB;have Mj:=Zbk HB.o Ml;have MI:=aa (HG1.o.mv (Mv.of HB.o));by_cases hlt:k<g.Gb.length
 ·obtain ⟨d,hd⟩:=aj g.Gb k hlt;have HCL:=aa (KQ g a k d wr MI.o.Gb HC.o.gi.tx hd (HC.o.dk k d hd) HC.o.ex);exact Ta6
 clear hk;have HX1:=aa HB.o;have g7:=mi Mj.o 7 _ rfl;have g6:=mi Mj.o 6 _ rfl;clear MI Mj;go_wp2;clear g6 g7 hlt;go_loopw [7] (fun i wr=>∃ k:Nat,k<=g.F9.length/\i=.int .i64 k/\Below W1.heap.size W1 wr) (fun i _=>g.F9.length - (intOf i).toNat)
 exact ⟨0,cg _,rfl,HX1.o⟩;obtain ⟨k,hk,rfl,hB⟩:=hrel;have HB:=aa hB;clear hB;have Mj:=Zbk HB.o Ml;have MI:=aa (HG1.o.mv (Mv.of HB.o));by_cases hlt:k<g.F9.length
 ·obtain ⟨d,hd⟩:=aj g.F9 k hlt;have HCL:=aa (JO g a k d wr MI.o.F9 HC.o.gi.tx hd (HC.o.vo k d hd));exact Ta6
 clear hk;have HX2:=aa HB.o;have g7:=mi Mj.o 7 _ rfl;have g6:=mi Mj.o 6 _ rfl;clear MI Mj;go_wp2;clear g6 g7 hlt;go_loopw [9] (fun z wr=>∃ i:Nat,i<=g.F9.length/\z=.int .i64 i/\Below W1.heap.size W1 wr) (fun z _=>g.F9.length - (intOf z).toNat)
 exact ⟨0,cg _,rfl,HX2.o⟩;obtain ⟨i,hi,rfl,hB⟩:=hrel;have HB:=aa hB;clear hB;have Mj:=Zbk HB.o Ml;have MI:=aa (HG1.o.mv (Mv.of HB.o));by_cases hlt:i<g.F9.length
 ·obtain ⟨v,hv⟩:=aj g.F9 i hlt;have Zr:=ct hv;have as0:=HC.o.vs v Zr;obtain ⟨b,off,us,hsp,_,cX,_,eE,hcv⟩:=HG1.o.F9.elem hv;obtain ⟨tv,sv,rfl,ew,fL⟩:=eE;obtain ⟨tp,tc,rfl,_,_⟩:=ew.cap;obtain ⟨sp,sc,rfl,_,_⟩:=fL.cap;have Ug:=aa hsp;have Zv:=aa fL;have HCV:=aa hcv;have My:Hid (aN ok W1 _ v):=aa ⟨_,_,rfl,ew,fL⟩;clear hsp ew fL hcv;clear hv;have g7:=mi Mj.o 7 _ rfl;clear Mj MI;go_wp2;clear g7;go_loopw [10,11] (fun st z wr=>∃ j:Nat,j<=v.Gf.length/\z=.int .i64 j/\st=.int .i64 (Cw (v.Gf.take j))/\Below W1.heap.size W1 wr) (fun _ z _=>v.Gf.length - (intOf z).toNat)
  exact ⟨0,cg _,rfl,rfl,HB.o⟩;clear HB;obtain ⟨j,hj,rfl,rfl,hB⟩:=hrel;have Uu:=aa hB;clear hB;have Mj:=Zbk Uu.o Ml;have MI:=aa (HG1.o.mv (Mv.of Uu.o));have g7:=mi Mj.o 7 _ rfl;rw [Ug.o] at g7;have x5:=(cd (a:=⟨b,off+i*6+5,none⟩) (Uu.o.block b cX)).trans (HCV.o 5 _ rfl);by_cases hlt2:j<v.Gf.length
  ·obtain ⟨s,hs⟩:=aj v.Gf j hlt2;have hsm:=ct hs;obtain ⟨b3,off3,us3,hsp3,_,PV,_,Tr,hcv3⟩:=Zv.o.elem hs;have XU:=aa Tr;obtain ⟨av,st,rfl,py,hst⟩:=Tr;obtain ⟨ap,ac,rfl,_,_⟩:=py.cap;obtain ⟨eN,eR,rfl,_,_⟩:=hst.cap;have YC:=aa (HC.o.sg v Zr j s hs);have HSN:=aa (GI hs);have hzz:=HC.o.sz v Zr s hsm;have hl0:=hzz.fm.l0;have hl1:=hzz.fm.l1;have GF:=((HC.o.gi.sz.vz v Zr).seg s hsm);have hsb:=I7 (l:=v.Gf) (fun s hs=>⟨by have:=(HC.o.sz v Zr s hs).fm.l0;omega,(HC.o.sz v Zr s hs).fm.l1⟩) j;subst hsp3;have Tl:=Uu.o.block b3 PV;obtain ⟨y0,y1,y2,y3,y4,y5,y6,y7,y8,y9,y10⟩:=ak5 Tl hcv3;clear Tl;generalize hST:Cw (v.Gf.take j)=ST at *;have Fc:=aa (b9 wr (.cells (Tae s ap ac eN eR) 114));have hA:=ae wr (.cells (Tae s ap ac eN eR) 114);replace Mj:=Zbk hA Mj;replace MI:=aa (MI.o.mv (Mv.of hA));have pL:=Zbl Uu hA;have Nc:=aa (bC.moves.mv (Mv.of pL.o) XU.o);clear hA hcv3 py hst hzz hs hST
   go_upto_region 24 with (fail);clear y0 y1 y2 y3 y4 y5 y6 y7 y8 y9 y10 g7 x5;generalize World.alloc wr _=W5 at *;generalize wr.heap.size=Bx at Fc ⊢;have sL:=mi Fc.o;obtain ⟨s0,s1,s2,s3,s4,s5,s6,s7,s8,s9,s10⟩:=IC sL;clear sL;have gL:=mi Mj.o;obtain ⟨g0,g1,g2,g3,g4,g5,g6,g7,g8⟩:=xr gL;clear gL;go_wp2_with fail;clear g0 g1 g2 g3 g4 g5 g6 g7 g8 s0 s1 s2 s3 s4 s5 s6 s7 s8 s9 s10;refine (KU g a s _ ST W5 Nc.o YC.o.1 HC.o.ex GF.1 GF.2).mono ?_;rintro e w6 ⟨rfl,hb6⟩;replace Mj:=Zbk hb6 Mj;replace Fc:=Zbk hb6 Fc;have Tq:=Zbl pL hb6;clear hb6 Nc pL MI;go_upto_region 26 with (fail);have g7:=aG (aq Mj.o) (mi Mj.o 7 _ rfl);rw [Ug.o] at g7;have x5:=aG (cC cX Tq.o.size) ((cd (a:=⟨b,off+i*6+5,none⟩) (Tq.o.block b cX)).trans (HCV.o 5 _ rfl));have s2:=aG (aq Fc.o) (mi Fc.o 2 _ rfl);have aw6:=Fc;clear Mj Fc;by_cases hm:1<v.Gf.length
   ·have d1:decide ((1:Int)<(v.Gf.length:Int))=true:=eA TcC;have d1':decide (1<v.Gf.length)=true:=eA hm;have HSI:=aa fun q:fo=>Kg s.kind (ext w6 q) YC.o.1 (YC.o.2 hm)
    (refine wp_region_quiet_lit ?_;(repeat (go_big_quiet_step ((go_at_call 77;exact iH (HSI.o _)))));(with_reducible refine fR ?_);intro wq ia;have kq:=dY ia;clear ia)
    clear d1 d1' HSI g7 x5 s2;exact Tbf
   have d1:decide ((1:Int)<(v.Gf.length:Int))=false:=cN TcC;have d1':decide (1<v.Gf.length)=false:=cN hm;(refine wp_region_quiet_lit ?_;(repeat (go_big_quiet_step (fail)));(with_reducible refine fR ?_);intro wq ia;have kq:=dY ia;clear ia)
   clear d1 d1' g7 x5 s2;exact Tbf
  exact TbM
 clear hi;have Ul:=aa HB.o;have g7:=mi Mj.o 7 _ rfl;have g6:=mi Mj.o 6 _ rfl;clear MI Mj;go_wp2;clear g6 g7 hlt;go_loopw [13] (fun z wr=>∃ i:Nat,i<=g.F9.length/\z=.int .i64 i/\Below W1.heap.size W1 wr) (fun z _=>g.F9.length - (intOf z).toNat)
 exact ⟨0,cg _,rfl,Ul.o⟩;obtain ⟨i,hi,rfl,hB⟩:=hrel;have HB:=aa hB;clear hB;have Mj:=Zbk HB.o Ml;have MI:=aa (HG1.o.mv (Mv.of HB.o));by_cases hlt:i<g.F9.length
 ·obtain ⟨v,hv⟩:=aj g.F9 i hlt;have Zr:=ct hv;have as0:=HC.o.vs v Zr;obtain ⟨b,off,us,hsp,_,cX,_,eE,hcv⟩:=HG1.o.F9.elem hv;obtain ⟨tv,sv,rfl,ew,fL⟩:=eE;obtain ⟨tp,tc,rfl,_,_⟩:=ew.cap;obtain ⟨sp,sc,rfl,_,_⟩:=fL.cap;have Ug:=aa hsp;have Zv:=aa fL;have HCV:=aa hcv;have My:Hid (aN ok W1 _ v):=aa ⟨_,_,rfl,ew,fL⟩;clear hsp ew fL hcv;have hv0:=hv;clear hv;have g7:=mi Mj.o 7 _ rfl;clear Mj MI;go_wp2;clear g7;go_loopw [14] (fun z wr=>∃ j:Nat,j<=v.Gf.length/\z=.int .i64 j/\Below W1.heap.size W1 wr) (fun z _=>v.Gf.length - (intOf z).toNat)
  exact ⟨0,cg _,rfl,HB.o⟩;clear HB;obtain ⟨j,hj,rfl,hB⟩:=hrel;have Uu:=aa hB;clear hB;have Mj:=Zbk Uu.o Ml;have MI:=aa (HG1.o.mv (Mv.of Uu.o));have g7:=mi Mj.o 7 _ rfl;rw [Ug.o] at g7;have x5:=(cd (a:=⟨b,off+i*6+5,none⟩) (Uu.o.block b cX)).trans (HCV.o 5 _ rfl);by_cases hlt2:j<v.Gf.length
  ·obtain ⟨s,hs⟩:=aj v.Gf j hlt2;have hsm:=ct hs;obtain ⟨b3,off3,us3,hsp3,_,PV,_,Tr,hcv3⟩:=Zv.o.elem hs;have XU:=aa Tr;obtain ⟨av,st,rfl,py,hst⟩:=Tr;obtain ⟨ap,ac,rfl,_,_⟩:=py.cap;obtain ⟨eN,eR,rfl,_,_⟩:=hst.cap;obtain ⟨r1,r2,r3,r4,r5⟩:=zZ (HC.o.re v Zr s hsm);have HR1:=aa r1;have E3:=aa r2;have HR3:=aa r3;have WD:=aa r4;have HR5:=aa r5;have HFN:=aa (JH (HC.o.sg v Zr j s hs).1);have hzz:=HC.o.sz v Zr s hsm;have hl0:=hzz.fm.l0;have hl1:=hzz.fm.l1;have GF:=((HC.o.gi.sz.vz v Zr).seg s hsm).1;have hns:v.name.size<=1000000000:=by have:=za (Hz (HC.o.vo i v hv0)).1;omega
   subst hsp3;have Tl:=Uu.o.block b3 PV;obtain ⟨y0,y1,y2,y3,y4,y5,y6,y7,y8,y9,y10⟩:=ak5 Tl hcv3;clear Tl;have cT:=Uu.o.block b cX;have av8:=HCV.o;obtain ⟨x0,x1,x2,x3,x4,x5⟩:=NG cT av8;clear cT av8;have aC5:=cC cX Uu.o.size;have ai6:=cC PV Uu.o.size;have ao7:=XU;clear hcv3 py hst hzz hs r1 r2 r3 r4 r5;go_upto_region 35 with (fail);refine Jo _ wr Bg b off i g.F9.length a.vc v tp tc b3 off3 j sc s ap eN ac eR ⟨g7,x0,x1,x2,x3,x4,x5,y0,y1,y2,y3,y4,y5,y6,y7,y8,y9,y10⟩ (by
    intro q hq;simp only [dr,cY,dg] at hq;rcases hq with rfl | rfl | rfl
    ·exact aq Mj.o
    ·exact aC5
    exact ai6) hlt hlt2 (aa ?_) (fun _ _ _ _ _ h=>h)
   intro b1 b2 W5 u149 u150 u151 u152 u153 u154 u155 u156 u157 u158 u159 u160 u161 u162 hbW hk1 hk2;clear y0 y1 y2 y3 y4 y5 y6 y7 y8 y9 y10 x0 x1 x2 x3 x4 x5 g7;replace Mj:=Zbk hbW Mj;replace MI:=aa (MI.o.mv (Mv.of hbW));have pL:=Zbl Uu hbW;have Nc:=aa (bC.moves.mv (Mv.of pL.o) XU.o);have Wx:=aa (aN.moves.mv (Mv.of pL.o) My.o);have XR:=aa hk1;have Nb:=aa hk2;clear hbW hk1 hk2 Uu;have gL:=mi Mj.o;obtain ⟨g0,g1,g2,g3,g4,g5,g6,g7,g8⟩:=xr gL;clear gL;have sL:=mi Nb.o;obtain ⟨s0,s1,s2,s3,s4,s5,s6,s7,s8,s9,s10⟩:=IC sL;clear sL;go_wp2_with fail;clear g0 g1 g2 g3 g4 g5 g6 g7 g8 s0 s1 s2 s3 s4 s5 s6 s7 s8 s9 s10;refine (JM g a s _ W5 Nc.o MI.o HC.o.gi.sz GF HR1.o).mono ?_;rintro e W6 ⟨rfl,hb⟩;replace Mj:=Zbk hb Mj;replace Nb:=Zbk hb Nb;replace XR:=Zbk hb XR;replace MI:=aa (MI.o.mv (Mv.of hb));replace Nc:=aa (bC.moves.mv (Mv.of hb) Nc.o);replace Wx:=aa (aN.moves.mv (Mv.of hb) Wx.o);replace pL:=Zbl pL hb;clear hb;have gL:=mi Mj.o;obtain ⟨g0,g1,g2,g3,g4,g5,g6,g7,g8⟩:=xr gL;clear gL;have sL:=mi Nb.o;obtain ⟨s0,s1,s2,s3,s4,s5,s6,s7,s8,s9,s10⟩:=IC sL;clear sL;go_wp2_with fail;clear g0 g1 g2 g3 g4 g5 g6 g7 g8 s0 s1 s2 s3 s4 s5 s6 s7 s8 s9 s10;refine (JW g a s _ W6 Nc.o MI.o HC.o.gi.sz GF ⟨TcC,TcC⟩ (fun d hd=>by have:=HC.o.pf.de d hd;omega) E3.o).mono ?_;rintro e W7 ⟨rfl,hb⟩;replace Mj:=Zbk hb Mj;replace Nb:=Zbk hb Nb;replace XR:=Zbk hb XR;replace MI:=aa (MI.o.mv (Mv.of hb));replace Nc:=aa (bC.moves.mv (Mv.of hb) Nc.o);replace Wx:=aa (aN.moves.mv (Mv.of hb) Wx.o);replace pL:=Zbl pL hb;clear hb;have sL:=mi Nb.o;obtain ⟨s0,s1,s2,s3,s4,s5,s6,s7,s8,s9,s10⟩:=IC sL;clear sL;have xL:=mi XR.o;obtain ⟨x0,x1,x2,x3,x4,x5⟩:=sv6 xL;clear xL;go_wp2_with fail;clear s0 s1 s2 s3 s4 s5 s6 s7 s8 s9 s10 x0 x1 x2 x3 x4 x5;refine (Ki v s _ _ W7 Wx.o Nc.o GF hns HFN.o.1 HFN.o.2.1 HFN.o.2.2 HR3.o).mono ?_;rintro e W8 ⟨rfl,hb⟩;replace Mj:=Zbk hb Mj;replace Nb:=Zbk hb Nb;replace XR:=Zbk hb XR;replace MI:=aa (MI.o.mv (Mv.of hb));replace Nc:=aa (bC.moves.mv (Mv.of hb) Nc.o);replace Wx:=aa (aN.moves.mv (Mv.of hb) Wx.o);replace pL:=Zbl pL hb;clear hb;have gL:=mi Mj.o;obtain ⟨g0,g1,g2,g3,g4,g5,g6,g7,g8⟩:=xr gL;clear gL;have sL:=mi Nb.o;obtain ⟨s0,s1,s2,s3,s4,s5,s6,s7,s8,s9,s10⟩:=IC sL;clear sL;go_wp2_with fail;clear g0 g1 g2 g3 g4 g5 g6 g7 g8 s0 s1 s2 s3 s4 s5 s6 s7 s8 s9 s10;refine (Kh g a s _ W8 Nc.o MI.o HC.o.gi.sz GF WD.o HR5.o).mono ?_;rintro e W9 ⟨rfl,hb⟩;replace Mj:=Zbk hb Mj;replace Nb:=Zbk hb Nb;replace XR:=Zbk hb XR;replace MI:=aa (MI.o.mv (Mv.of hb));replace Nc:=aa (bC.moves.mv (Mv.of hb) Nc.o);replace Wx:=aa (aN.moves.mv (Mv.of hb) Wx.o);replace pL:=Zbl pL hb;clear hb;clear Mj MI Nc Wx XR Nb;go_wp2;go_roundw;exact ⟨j+1,TcC,TcG,pL.o⟩;simp [intOf];omega
  exact TbM
 clear hi;have Wj:=aa HB.o;have g7:=mi Mj.o 7 _ rfl;have g6:=mi Mj.o 6 _ rfl;clear MI Mj;go_wp2;clear g6 g7 hlt;go_loopw [17] (fun z wr=>∃ i:Nat,i<=g.F9.length/\z=.int .i64 i/\Below W1.heap.size W1 wr) (fun z _=>g.F9.length - (intOf z).toNat)
 exact ⟨0,cg _,rfl,Wj.o⟩;obtain ⟨i,hi,rfl,hB⟩:=hrel;have HB:=aa hB;clear hB;have Mj:=Zbk HB.o Ml;have MI:=aa (HG1.o.mv (Mv.of HB.o));by_cases hlt:i<g.F9.length
 ·obtain ⟨v,hv⟩:=aj g.F9 i hlt;have Zr:=ct hv;have as0:=HC.o.vs v Zr;obtain ⟨b,off,us,hsp,_,cX,_,eE,hcv⟩:=HG1.o.F9.elem hv;obtain ⟨tv,sv,rfl,ew,fL⟩:=eE;obtain ⟨tp,tc,rfl,_,_⟩:=ew.cap;obtain ⟨sp,sc,rfl,_,_⟩:=fL.cap;have Ug:=aa hsp;have Zv:=aa fL;have HCV:=aa hcv;have My:Hid (aN ok W1 _ v):=aa ⟨_,_,rfl,ew,fL⟩;clear hsp ew fL hcv;clear hv;have g7:=mi Mj.o 7 _ rfl;clear Mj MI;go_wp2;clear g7;go_loopw [18] (fun z wr=>∃ j:Nat,j<=v.Gf.length/\z=.int .i64 j/\Below W1.heap.size W1 wr) (fun z _=>v.Gf.length - (intOf z).toNat)
  exact ⟨0,cg _,rfl,HB.o⟩;clear HB;obtain ⟨j,hj,rfl,hB⟩:=hrel;have Uu:=aa hB;clear hB;have Mj:=Zbk Uu.o Ml;have MI:=aa (HG1.o.mv (Mv.of Uu.o));have g7:=mi Mj.o 7 _ rfl;rw [Ug.o] at g7;have x5:=(cd (a:=⟨b,off+i*6+5,none⟩) (Uu.o.block b cX)).trans (HCV.o 5 _ rfl);by_cases hlt2:j<v.Gf.length
  ·obtain ⟨s,hs⟩:=aj v.Gf j hlt2;have hsm:=ct hs;obtain ⟨b3,off3,us3,hsp3,_,PV,_,Tr,hcv3⟩:=Zv.o.elem hs;have XU:=aa Tr;obtain ⟨av,st,rfl,py,hst⟩:=Tr;obtain ⟨ap,ac,rfl,_,_⟩:=py.cap;obtain ⟨eN,eR,rfl,_,_⟩:=hst.cap;subst hsp3;have Tl:=Uu.o.block b3 PV;obtain ⟨y0,y1,y2,y3,y4,y5,y6,y7,y8,y9,y10⟩:=ak5 Tl hcv3;clear Tl;have ai6:=cC PV Uu.o.size;have HZQ:=aa fun q:fo=>Kk g a s _ (ext wr q) (bC.moves.mv (Mv.of (Uu.o.trans ((dQ wr q).mono Uu.o.size))) XU.o) (MI.o.mv (Mv.of (dQ wr q))) HC.o.gi.sz HC.o.lb HC.o.ex (HC.o.sz v Zr s hsm) (HC.o.si v Zr s hsm);clear hcv3 py hst hs
   go_upto_region 50 with (fail);clear g7 x5;obtain ⟨g0,g1,g2,g3,g4,g5,g6,g7,g8⟩:=Hr Mj.o;rw [Ug.o] at g7 HZQ;have x5:=aG (cC cX Uu.o.size) ((cd (a:=⟨b,off+i*6+5,none⟩) (Uu.o.block b cX)).trans (HCV.o 5 _ rfl));replace y0:=aG ai6 y0;replace y1:=aG ai6 y1;replace y2:=aG ai6 y2;replace y3:=aG ai6 y3;replace y4:=aG ai6 y4;replace y5:=aG ai6 y5;replace y6:=aG ai6 y6;replace y7:=aG ai6 y7;replace y8:=aG ai6 y8;replace y9:=aG ai6 y9;replace y10:=aG ai6 y10;clear Mj MI;(refine aU TcE TcE ?_;(repeat (go_big_quiet_step ((go_at_call 82;exact iH (HZQ.o _)))));(with_reducible refine fR ?_);intro wq ia;have kq:=dY ia;clear ia)
   have LX:=Zbl Uu kq;clear kq g0 g1 g2 g3 g4 g5 g6 g7 g8 x5 y0 y1 y2 y3 y4 y5 y6 y7 y8 y9 y10 HZQ Uu;exact Tb2
  exact TbM
 clear hi;have gL:=mi Mj.o;obtain ⟨g0,g1,g2,g3,g4,g5,g6,g7,g8⟩:=xr gL;clear gL;go_wp2_with fail;clear g0 g1 g2 g3 g4 g5 g6 g7 g8 hlt;refine (JD g a wr MI.o.F9 (by have:=HC.o.pf.vl;omega) HC.o.pf.tm (by have:=HC.o.pf.pn;omega) HC.o.row HC.o.pos).mono ?_;rintro e w7 ⟨rfl,hb7⟩;have MT:=Zbl HB hb7;have g7:=mi ((hb7.block _ (aq Mj.o)).trans Mj.o) 7 _ rfl;clear hb7 Mj MI HB;go_wp2;clear g7;go_loopw [21] (fun z wr=>∃ i:Nat,i<=g.F9.length/\z=.int .i64 i/\Below W1.heap.size W1 wr) (fun z _=>g.F9.length - (intOf z).toNat)
 exact ⟨0,cg _,rfl,MT.o⟩;obtain ⟨i,hi,rfl,hB⟩:=hrel;have HB:=aa hB;clear hB;have Mj:=Zbk HB.o Ml;have MI:=aa (HG1.o.mv (Mv.of HB.o));by_cases hlt:i<g.F9.length
 ·obtain ⟨v,hv⟩:=aj g.F9 i hlt;have Zr:=ct hv;have as0:=HC.o.vs v Zr;obtain ⟨b,off,us,hsp,_,cX,_,eE,hcv⟩:=HG1.o.F9.elem hv;obtain ⟨tv,sv,rfl,ew,fL⟩:=eE;obtain ⟨tp,tc,rfl,_,_⟩:=ew.cap;obtain ⟨sp,sc,rfl,_,_⟩:=fL.cap;have Ug:=aa hsp;have Zv:=aa fL;have HCV:=aa hcv;have My:Hid (aN ok W1 _ v):=aa ⟨_,_,rfl,ew,fL⟩;clear hsp ew fL hcv;have hv0:=hv;clear hv;have g7:=mi Mj.o 7 _ rfl;clear Mj MI;go_wp2;clear g7;go_loopw [22] (fun z wr=>∃ j:Nat,j<=i/\z=.int .i64 j/\Below W1.heap.size W1 wr) (fun z _=>i - (intOf z).toNat)
  exact ⟨0,cg _,rfl,HB.o⟩;clear HB;obtain ⟨j,hj,rfl,hB⟩:=hrel;have Uu:=aa hB;clear hB;by_cases hlt2:j<i
  ·obtain ⟨x,hx⟩:=aj g.F9 j TcC;have Mj:=Zbk Uu.o Ml;have g7:=mi Mj.o 7 _ rfl;rw [Ug.o] at g7;have Wd:=ct hx;have Xq:=aa fun s t=>HC.o.thin i j v x s t hlt2 hv0 hx;obtain ⟨bx,aD4,usx,ax6,_,aD5,_,aA3,aA4⟩:=HG1.o.F9.elem hx;rw [Ug.o] at ax6;simp only [Option.some.injEq,Addr.mk.injEq,and_true] at ax6;obtain ⟨rfl,rfl⟩:=ax6;have OB:=aa aA3;obtain ⟨tvx,svx,rfl,aA5,ax7⟩:=aA3;obtain ⟨tpx,tcx,rfl,_,_⟩:=aA5.cap;obtain ⟨spx,scx,rfl,_,_⟩:=ax7.cap;have aC6:=aa ax7;have hkv:v.Gf.length<=1000000000:=by omega
   have hkx:x.Gf.length<=1000000000:=by have:=HC.o.vs x Wd;omega
   have cT:=Uu.o.block b cX;have av8:=HCV.o;obtain ⟨y0,y1,y2,y3,y4,y5⟩:=NG cT av8;obtain ⟨z0,z1,z2,z3,z4,z5⟩:=NG cT aA4;clear cT av8;have hbl:=cC cX Uu.o.size;have MK:j<g.F9.length:=by omega
   clear aA4 aA5 ax7 hx;go_upto_region 61 with (fail);refine Ju _ wr Bg b off i g.F9.length a.vc v tp tc sp sc j x tpx spx tcx scx ⟨g7,y0,y1,y2,y3,y4,y5,z0,z1,z2,z3,z4,z5⟩ (by
    intro q hq;simp only [dr,cY,dg] at hq;rcases hq with rfl | rfl
    ·exact aq Mj.o
    exact hbl) hlt MK (aa ?_) (fun _ _ _ _ _ h=>h)
   intro b1 b2 W5 u246 u247 u248 u249 u250 u251 u252 u253 u254 u255 hbW hk1 hk2;clear y0 y1 y2 y3 y4 y5 z0 z1 z2 z3 z4 z5 g7;have pL:=Zbl Uu hbW;have HKV:=aa fun q:fo=>aN.moves.mv (Mv.of (pL.o.trans ((dQ W5 q).mono pL.o.size))) My.o;have HKX:=aa fun q:fo=>aN.moves.mv (Mv.of (pL.o.trans ((dQ W5 q).mono pL.o.size))) OB.o;obtain ⟨y0,y1,y2,y3,y4,y5⟩:=I6 hk1;obtain ⟨z0,z1,z2,z3,z4,z5⟩:=I6 hk2;clear hbW hk1 hk2 Uu Mj
   go_upto_region 62 with (fail);by_cases k1:eZ v=6
   ·have e1:(eZ v == 6)=true:=by rw [k1];rfl
    by_cases k2:eZ x=6
    ·have e2:(eZ x == 6)=true:=by rw [k2];rfl
     obtain ⟨s,hs1,hs2⟩:=Ja k1;obtain ⟨t,ht1,ht2⟩:=Ja k2;have Mf:=Xq.o s t hs1 ht1 hs2 ht2;have hs0:v.Gf[0]?=some s:=by rw [hs1];rfl
     have ht0:x.Gf[0]?=some t:=by rw [ht1];rfl
     have mb:0<v.Gf.length:=by rw [hs1];exact Nat.succ_pos _
     have vh:0<x.Gf.length:=by rw [ht1];exact Nat.succ_pos _
     obtain ⟨bs,os,uss,aA6,_,aA7,_,aC7,ax8⟩:=Zv.o.elem hs0;obtain ⟨_,_,rfl,_,_⟩:=aC7;obtain ⟨bt,ot,ust,aA8,_,aA9,_,aC8,ax9⟩:=aC6.o.elem ht0;obtain ⟨_,_,rfl,_,_⟩:=aC8;have CH:∀ m z,W1.cell? ⟨bs,os+m,none⟩=some z->∀ q,(ext W5 q).cell? ⟨bs,os+m,none⟩=some z:=fun m z h=>aG (cC aA7 pL.o.size) ((pL.o.cell (p:=⟨bs,os+m,none⟩) aA7).trans h);have YL:∀ m z,W1.cell? ⟨bt,ot+m,none⟩=some z->∀ q,(ext W5 q).cell? ⟨bt,ot+m,none⟩=some z:=fun m z h=>aG (cC aA9 pL.o.size) ((pL.o.cell (p:=⟨bt,ot+m,none⟩) aA9).trans h);have p7:=CH 7 _ (by have:=ax8 7 _ rfl;rwa [Nat.zero_mul,fg] at this);have p8:=CH 8 _ (by have:=ax8 8 _ rfl;rwa [Nat.zero_mul,fg] at this);have t7:=YL 7 _ (by have:=ax9 7 _ rfl;rwa [Nat.zero_mul,fg] at this);have t8:=YL 8 _ (by have:=ax9 8 _ rfl;rwa [Nat.zero_mul,fg] at this);rw [aA6] at y5 HKV;rw [aA8] at z5 HKX;clear ax8 ax9 CH YL hs0 ht0 hs1 ht1 hs2 ht2 k1 k2 aA6 aA8
     by_cases Un:s.pool=t.pool
     ·have hdd:(s.device == t.device)=false:=beq_eq_false_iff_ne.2 (Mf.resolve_left fun q=>q Un);rw [Un] at p7;clear Mf Un;(refine aU TcE TcE ?_;(repeat (go_big_quiet_step ((go_at_call 84;first | exact iH (pq _ _ _ (HKV.o _) hkv) | exact iH (pq _ _ _ (HKX.o _) hkx)))));(with_reducible refine fR ?_);intro wq ia;have kq:=dY ia;clear ia)
      have LX:=Zbl pL kq;clear kq y0 z0 y1 z1 y2 z2 y3 z3 y4 z4 y5 z5 e1 e2 p7 p8 t7 t8 hdd;exact Tb2
     have Mu:=jI Un;clear Mf Un;(refine aU TcE TcE ?_;(repeat (go_big_quiet_step ((go_at_call 84;first | exact iH (pq _ _ _ (HKV.o _) hkv) | exact iH (pq _ _ _ (HKX.o _) hkx)))));(with_reducible refine fR ?_);intro wq ia;have kq:=dY ia;clear ia)
     have LX:=Zbl pL kq;clear kq y0 z0 y1 z1 y2 z2 y3 z3 y4 z4 y5 z5 e1 e2 p7 p8 t7 t8 Mu;exact Tb2
    have e2:(eZ x == 6)=false:=beq_eq_false_iff_ne.2 k2;clear k1 k2;(refine aU TcE TcE ?_;(repeat (go_big_quiet_step ((go_at_call 84;first | exact iH (pq _ _ _ (HKV.o _) hkv) | exact iH (pq _ _ _ (HKX.o _) hkx)))));(with_reducible refine fR ?_);intro wq ia;have kq:=dY ia;clear ia)
    have LX:=Zbl pL kq;clear kq y0 z0 y1 z1 y2 z2 y3 z3 y4 z4 y5 z5 e1 e2;exact Tb2
   have e1:(eZ v == 6)=false:=beq_eq_false_iff_ne.2 k1;clear k1;(refine aU TcE TcE ?_;(repeat (go_big_quiet_step ((go_at_call 84;first | exact iH (pq _ _ _ (HKV.o _) hkv) | exact iH (pq _ _ _ (HKX.o _) hkx)))));(with_reducible refine fR ?_);intro wq ia;have kq:=dY ia;clear ia)
   have LX:=Zbl pL kq;clear kq y0 z0 y1 z1 y2 z2 y3 z3 y4 z4 y5 z5 e1;exact Tb2
  exact Tcw
 clear hi;have HX9:=aa HB.o;have g7:=mi Mj.o 7 _ rfl;have g6:=mi Mj.o 6 _ rfl;clear MI Mj;go_wp2;clear g6 g7 hlt;go_loopw [25] (fun i wr=>∃ k:Nat,k<=g.F9.length/\i=.int .i64 k/\Below W1.heap.size W1 wr) (fun i _=>g.F9.length - (intOf i).toNat)
 exact ⟨0,cg _,rfl,HX9.o⟩;obtain ⟨k,hk,rfl,hB⟩:=hrel;have HB:=aa hB;clear hB;have Mj:=Zbk HB.o Ml;have MI:=aa (HG1.o.mv (Mv.of HB.o));by_cases hlt:k<g.F9.length
 ·obtain ⟨d,hd⟩:=aj g.F9 k hlt;have HCL:=aa (Kr g a k d wr MI.o.F9 (by have:=HC.o.pf.vl;omega) HC.o.gi.sz.vz HC.o.ul hd (HC.o.us d (ct hd)).1 (HC.o.us d (ct hd)).2);exact Ta6
 clear hk;have g7:=mi Mj.o 7 _ rfl;have TF:=Zbl HW1 HB.o;clear Mj MI;go_wp2;go_ret2;exact ⟨rfl,TF.o⟩
end Go.Proofs.YtaagglbgohjldaaGreatDoor
