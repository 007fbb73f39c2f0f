/- Lemmas: RgT, RpB, RpC, RxB. -/
import Derived.Test.YtillcmhjhajimaaGreatDoorQj23
set_option maxRecDepth 100000
set_option maxHeartbeats 32000000
set_option linter.all false
namespace Go.Proofs.YtillcmhjhajimaaGreatDoor
open Go.Proofs.Tryz
open Go.RowKit Go.Maps Go.Shelf
variable {s:aB}{r:aY}{ps:List gy}{nm:ByteArray}{d:az}
structure K5(g:af):Prop where
 gi:NL g
 hd:qX g=0
 dk:∀(k:Nat) (d:az),g.Gb[k]?=some d->pg g k d=0
 vo:∀(k:Nat) (v:ay),g.F9[k]?=some v->yH g k v=0
 ex:1<=g.Gd/\g.Gd<=1024
 sg:∀v∈g.F9,∀(k:Nat) (s:aB),v.Gf[k]?=some s->bJ g.Gd s (Cw (v.Gf.take k))=true/\(1<v.Gf.length->(oO s.kind).several=true)
 sz:∀v∈g.F9,∀s∈v.Gf,Ah s
 re:∀v∈g.F9,∀s∈v.Gf,mM g v s=0
 si:∀v∈g.F9,∀s∈v.Gf,CX g s=true
 lb:Cu g
 pf:E9 g
 row:∀(i k:Nat) (p q:gy),k<i->(pieces g.F9)[i]?=some p->(pieces g.F9)[k]?=some q->p.disk=q.disk->q.start+q.len<=p.start
 pos:∀p∈pieces g.F9,(0<=p.start/\p.start<=1000000)/\1<=p.len/\p.len<=1000000
 thin:∀(i k:Nat) (v x:ay) (s t:aB),k<i->g.F9[i]?=some v->g.F9[k]?=some x->v.Gf=[s]->x.Gf=[t]->s.kind=6->t.kind=6->s.pool≠t.pool\/s.device≠t.device
 us:∀v∈g.F9,(v.hidden=true->iJ (Ci g.F9) v.name=1)/\(v.hidden=false->iJ (Ci g.F9) v.name=yx v.name g.F9/\(yx v.name g.F9=0\/eZ v=5))
 ul:∀v∈g.F9,(kY v).length<=100000
 vs:∀v∈g.F9,v.Gf.length<=64
theorem sU.ckIn{g:af}(h:sU g):K5 g:=by
 have hm:=h.mchk;have hi:=h.gin;obtain⟨h1,h2,h3,h4,h5,h6,h7,h8⟩:=Dg hm;obtain⟨r1,r2⟩:=iT h1;have hsz:=mZ h4;refine⟨hi,h1,fun k d hd=>?_,fun k v hv=>?_,⟨r1.2.2.1,r1.2.2.2.1⟩,fun v hv k s hs=>Kv h4 hv hs,hsz,Dh h5,fun v hv s hs=>?_,Cg h3 h4,Fb hi hm,JQ h,JN h,
  fun i k v x s t Ta hv hx hs ht h6 h6'=>JY h7 Ta hv hx hs ht h6 h6',fun v hv=>KT hm hv,fun v hv=>?_,fun v hv=>(nH h3 v hv).2.2.2⟩
 ·have:=ll (i:=0) h2 k d hd;rwa[eJ]at this
 ·have:=ll (i:=0) h3 k v hv;rwa[eJ]at this
 ·exact Tbc
 have:=lY rQ 8 v.Gf fun s hs=>cA (Cb s) (by have:=(hsz v hv s hs).fm.ar;omega)
 have h64:=(nH h3 v hv).2.2.2;unfold kY;omega
theorem Kg{ext st:Int}(k:Int)(w:World)(hf:bJ ext s st=true)(h:(oO s.kind).several=true)(hk:k=s.kind:=by rfl) :
  Calls prog 86 #[.int .i64 k] w fun e w'=>e=.returned (.bool true)/\Below w.heap.size w w':=by
 subst hk;obtain⟨x,hx,-⟩:=DD hf;refine(JF s.kind x w hx).mono ?_;rintro e w' ⟨rfl,rfl⟩;unfold oO at h;rw[hx]at h;exact⟨by rw[show x.several=true from h],bj _ _⟩
theorem JH{ext st:Int}(h:bJ ext s st=true):(s.kind=5->s.Ga.length<=2)/\(s.kind=7->s.Ga.length<=3)/\(¬s.kind=3->s.log.toList.isEmpty=true):=by
 obtain⟨x,hx,-,-,⟨-,h2⟩,-,-,hl,-⟩:=DD h;refine⟨fun k=>?_,fun k=>?_,fun k=>?_⟩
 ·rw[k]at hx;injection hx with hx;subst hx;dsimp only at h2;omega
 ·rw[k]at hx;injection hx with hx;subst hx;dsimp only at h2;omega
 have:x.log=false:=by
  rcases pM hx with q|q|q|q|q|q|q|q|q|q
  all_goals first|exact absurd q k|(rw[q]at hx;injection hx with hx;subst hx;rfl)
 rwa[this,nj]at hl
theorem Tb4{p:Prop}(h:p:=by
 go_wp2;go_roundw;exact⟨j+1,TcN,TcR,o0.o⟩;simp[intOf];omega):p:=h
theorem TcF{p:Prop}(h:p:=by
 go_wp2;go_roundw;exact⟨i+1,TcN,TcR,Uu.o⟩;simp[intOf];omega):p:=h
theorem TbK{p:Prop}(h:p:=by
 ·clear Mj MI;exact TcF):p:=h
theorem Ta3{p:Prop}(h:p:=by
 have gL:=mi Mj.o;obtain⟨g0,g1,g2,g3,g4,g5,g6,g7,g8⟩:=xr gL;clear gL;clear Mj MI hd;go_wp2_with fail;clear g0 g1 g2 g3 g4 g5 g6 g7 g8;refine HCL.o.mono ?_;clear HCL;rintro e w5 ⟨rfl,hb5⟩;have eK:=Zbl HB hb5;clear hb5;exact TcE):p:=h
theorem Tbb{p:Prop}(h:p:=by
 have o0:=Zbl Tq kq;have s1:=mi ((kq.block _ (aq aw6.o)).trans aw6.o) 1 _ rfl;clear kq;go_wp2;go_roundw;exact⟨j+1,TcN,TcR,by rw[G1.o],o0.o⟩;simp[intOf];omega):p:=h
theorem Ko{ok:Nat->Prop}(g:af)(a:bN)(w:World)(hg:dN ok w g a)(hc:K5 g) :
  Calls prog 46 #[.agg (Tad g a)] w fun e w'=>e=.returned (.tuple #[.string ⟨#[]⟩,.int .i64 0])/\Below w.heap.size w w':=by
 have HC:=aa hc;have CD:g.Gb.length<=1000000:=hc.gi.sz.dl;have mb:g.F9.length<=1000000:=hc.gi.sz.vl;clear hc;have hA1:=ae w (.cells (Tad g a) 32);have Ml:=aa (b9 w (.cells (Tad g a) 32));have HG1:=aa (hg.mv (Mv.of hA1));have HW1:=aa hA1;clear hg hA1;go_enter func46,ntmps46
 go_upto_region 1 with(fail);generalize World.alloc w _=W1 at *;generalize hE:w.heap.size=Bg at Ml ⊢;clear hE;have gL:=mi Ml.o;obtain⟨g0,g1,g2,g3,g4,g5,g6,g7,g8⟩:=xr gL;clear gL;go_wp2_with fail;clear g0 g1 g2 g3 g4 g5 g6 g7 g8;refine(Kj g a W1 HG1.o HC.o.gi.tx).mono ?_;rintro e w2 ⟨rfl,hb2⟩;rw[HC.o.hd];have HX0:=aa hb2;have g6:=mi ((hb2.block _ (aq Ml.o)).trans Ml.o) 6 _ rfl;clear hb2;go_wp2;clear g6;go_loopw[5] (fun i wr=>∃k:Nat,k<=g.Gb.length/\i=.int .i64 k/\Below W1.heap.size W1 wr) (fun i _=>g.Gb.length-(intOf i).toNat)
 exact⟨0,cg _,rfl,HX0.o⟩;obtain⟨k,hk,rfl,hB⟩:=hrel;have HB:=aa hB;clear hB;have Mj:=Zbk HB.o Ml;have MI:=aa (HG1.o.mv (Mv.of HB.o));by_cases hlt:k<g.Gb.length
 ·obtain⟨d,hd⟩:=aj g.Gb k hlt;have HCL:=aa (KQ g a k d wr MI.o.Gb HC.o.gi.tx hd (HC.o.dk k d hd) HC.o.ex);exact Ta3
 clear hk;have HX1:=aa HB.o;have g7:=mi Mj.o 7 _ rfl;have g6:=mi Mj.o 6 _ rfl;clear MI Mj;go_wp2;clear g6 g7 hlt;go_loopw[7] (fun i wr=>∃k:Nat,k<=g.F9.length/\i=.int .i64 k/\Below W1.heap.size W1 wr) (fun i _=>g.F9.length-(intOf i).toNat)
 exact⟨0,cg _,rfl,HX1.o⟩;obtain⟨k,hk,rfl,hB⟩:=hrel;have HB:=aa hB;clear hB;have Mj:=Zbk HB.o Ml;have MI:=aa (HG1.o.mv (Mv.of HB.o));by_cases hlt:k<g.F9.length
 ·obtain⟨d,hd⟩:=aj g.F9 k hlt;have HCL:=aa (JO g a k d wr MI.o.F9 HC.o.gi.tx hd (HC.o.vo k d hd));exact Ta3
 clear hk;have HX2:=aa HB.o;have g7:=mi Mj.o 7 _ rfl;have g6:=mi Mj.o 6 _ rfl;clear MI Mj;go_wp2;clear g6 g7 hlt;go_loopw[9] (fun z wr=>∃i:Nat,i<=g.F9.length/\z=.int .i64 i/\Below W1.heap.size W1 wr) (fun z _=>g.F9.length-(intOf z).toNat)
 exact⟨0,cg _,rfl,HX2.o⟩;obtain⟨i,hi,rfl,hB⟩:=hrel;have HB:=aa hB;clear hB;have Mj:=Zbk HB.o Ml;have MI:=aa (HG1.o.mv (Mv.of HB.o));by_cases hlt:i<g.F9.length
 ·obtain⟨v,hv⟩:=aj g.F9 i hlt;have Zr:=ct hv;have as0:=HC.o.vs v Zr;obtain⟨b,off,us,hsp,_,cX,_,eE,hcv⟩:=HG1.o.F9.elem hv;obtain⟨tv,sv,rfl,ew,fL⟩:=eE;obtain⟨tp,tc,rfl,_,_⟩:=ew.cap;obtain⟨sp,sc,rfl,_,_⟩:=fL.cap;have Ug:=aa hsp;have Zv:=aa fL;have Q5:=aa hcv;have My:Hid (aN ok W1 _ v):=aa ⟨_,_,rfl,ew,fL⟩;clear hsp ew fL hcv;clear hv;have g7:=mi Mj.o 7 _ rfl;clear Mj MI;go_wp2;clear g7;go_loopw[10,11] (fun st z wr=>∃j:Nat,j<=v.Gf.length/\z=.int .i64 j/\st=.int .i64 (Cw (v.Gf.take j))/\Below W1.heap.size W1 wr) (fun _ z _=>v.Gf.length-(intOf z).toNat)
  exact⟨0,cg _,rfl,rfl,HB.o⟩;clear HB;obtain⟨j,hj,rfl,rfl,hB⟩:=hrel;have Uu:=aa hB;clear hB;have Mj:=Zbk Uu.o Ml;have MI:=aa (HG1.o.mv (Mv.of Uu.o));have g7:=mi Mj.o 7 _ rfl;rw[Ug.o]at g7;have x5:=(cd (a:=⟨b,off+i*6+5,none⟩) (Uu.o.block b cX)).trans (Q5.o 5 _ rfl);by_cases hlt2:j<v.Gf.length
  ·obtain⟨s,hs⟩:=aj v.Gf j hlt2;have hsm:=ct hs;obtain⟨b3,off3,us3,hsp3,_,PV,_,Tr,hcv3⟩:=Zv.o.elem hs;have XU:=aa Tr;obtain⟨av,st,rfl,mC,hst⟩:=Tr;obtain⟨ap,ac,rfl,_,_⟩:=mC.cap;obtain⟨eN,eR,rfl,_,_⟩:=hst.cap;have YC:=aa (HC.o.sg v Zr j s hs);have G1:=aa (GI hs);have hzz:=HC.o.sz v Zr s hsm;have hl0:=hzz.fm.l0;have hl1:=hzz.fm.l1;have GF:=((HC.o.gi.sz.vz v Zr).seg s hsm);have hsb:=I7 (l:=v.Gf) (fun s hs=>⟨by have:=(HC.o.sz v Zr s hs).fm.l0;omega,(HC.o.sz v Zr s hs).fm.l1⟩) j;subst hsp3;have Tl:=Uu.o.block b3 PV;obtain⟨y0,y1,y2,y3,y4,y5,y6,y7,y8,y9,y10⟩:=ak5 Tl hcv3;clear Tl;generalize hST:Cw (v.Gf.take j)=ST at *;have Fc:=aa (b9 wr (.cells (Tae s ap ac eN eR) 88));have hA:=ae wr (.cells (Tae s ap ac eN eR) 88);replace Mj:=Zbk hA Mj;replace MI:=aa (MI.o.mv (Mv.of hA));have pL:=Zbl Uu hA;have Nc:=aa (bC.moves.mv (Mv.of pL.o) XU.o);clear hA hcv3 mC hst hzz hs hST
   go_upto_region 24 with(fail);clear y0 y1 y2 y3 y4 y5 y6 y7 y8 y9 y10 g7 x5;generalize World.alloc wr _=W5 at *;generalize wr.heap.size=Bx at Fc ⊢;have sL:=mi Fc.o;obtain⟨s0,s1,s2,s3,s4,s5,s6,s7,s8,s9,s10⟩:=IC sL;clear sL;have gL:=mi Mj.o;obtain⟨g0,g1,g2,g3,g4,g5,g6,g7,g8⟩:=xr gL;clear gL;go_wp2_with fail;clear g0 g1 g2 g3 g4 g5 g6 g7 g8 s0 s1 s2 s3 s4 s5 s6 s7 s8 s9 s10;refine(KU g a s _ ST W5 Nc.o YC.o.1 HC.o.ex GF.1 GF.2).mono ?_;rintro e w6 ⟨rfl,hb6⟩;replace Mj:=Zbk hb6 Mj;replace Fc:=Zbk hb6 Fc;have Tq:=Zbl pL hb6;clear hb6 Nc pL MI;go_upto_region 26 with(fail);have g7:=aG (aq Mj.o) (mi Mj.o 7 _ rfl);rw[Ug.o]at g7;have x5:=aG (cC cX Tq.o.size) ((cd (a:=⟨b,off+i*6+5,none⟩) (Tq.o.block b cX)).trans (Q5.o 5 _ rfl));have s2:=aG (aq Fc.o) (mi Fc.o 2 _ rfl);have aw6:=Fc;clear Mj Fc;by_cases hm:1<v.Gf.length
   ·have d1:decide ((1:Int)<(v.Gf.length:Int))=true:=eA TcN;have d1':decide (1<v.Gf.length)=true:=eA hm;have HSI:=aa fun q:fo=>Kg s.kind (ext w6 q) YC.o.1 (YC.o.2 hm)
    (refine wp_region_quiet_lit ?_;(repeat(go_big_quiet_step ((go_at_call 86;exact iH (HSI.o _)))));(with_reducible refine fR ?_);intro wq ia;have kq:=dY ia;clear ia)
    clear d1 d1' HSI g7 x5 s2;exact Tbb
   have d1:decide ((1:Int)<(v.Gf.length:Int))=false:=cN TcN;have d1':decide (1<v.Gf.length)=false:=cN hm;(refine wp_region_quiet_lit ?_;(repeat(go_big_quiet_step (fail)));(with_reducible refine fR ?_);intro wq ia;have kq:=dY ia;clear ia)
   clear d1 d1' g7 x5 s2;exact Tbb
  exact TbK
 clear hi;have Ul:=aa HB.o;have g7:=mi Mj.o 7 _ rfl;have g6:=mi Mj.o 6 _ rfl;clear MI Mj;go_wp2;clear g6 g7 hlt;go_loopw[13] (fun z wr=>∃i:Nat,i<=g.F9.length/\z=.int .i64 i/\Below W1.heap.size W1 wr) (fun z _=>g.F9.length-(intOf z).toNat)
 exact⟨0,cg _,rfl,Ul.o⟩;obtain⟨i,hi,rfl,hB⟩:=hrel;have HB:=aa hB;clear hB;have Mj:=Zbk HB.o Ml;have MI:=aa (HG1.o.mv (Mv.of HB.o));by_cases hlt:i<g.F9.length
 ·obtain⟨v,hv⟩:=aj g.F9 i hlt;have Zr:=ct hv;have as0:=HC.o.vs v Zr;obtain⟨b,off,us,hsp,_,cX,_,eE,hcv⟩:=HG1.o.F9.elem hv;obtain⟨tv,sv,rfl,ew,fL⟩:=eE;obtain⟨tp,tc,rfl,_,_⟩:=ew.cap;obtain⟨sp,sc,rfl,_,_⟩:=fL.cap;have Ug:=aa hsp;have Zv:=aa fL;have Q5:=aa hcv;have My:Hid (aN ok W1 _ v):=aa ⟨_,_,rfl,ew,fL⟩;clear hsp ew fL hcv;have hv0:=hv;clear hv;have g7:=mi Mj.o 7 _ rfl;clear Mj MI;go_wp2;clear g7;go_loopw[14] (fun z wr=>∃j:Nat,j<=v.Gf.length/\z=.int .i64 j/\Below W1.heap.size W1 wr) (fun z _=>v.Gf.length-(intOf z).toNat)
  exact⟨0,cg _,rfl,HB.o⟩;clear HB;obtain⟨j,hj,rfl,hB⟩:=hrel;have Uu:=aa hB;clear hB;have Mj:=Zbk Uu.o Ml;have MI:=aa (HG1.o.mv (Mv.of Uu.o));have g7:=mi Mj.o 7 _ rfl;rw[Ug.o]at g7;have x5:=(cd (a:=⟨b,off+i*6+5,none⟩) (Uu.o.block b cX)).trans (Q5.o 5 _ rfl);by_cases hlt2:j<v.Gf.length
  ·obtain⟨s,hs⟩:=aj v.Gf j hlt2;have hsm:=ct hs;obtain⟨b3,off3,us3,hsp3,_,PV,_,Tr,hcv3⟩:=Zv.o.elem hs;have XU:=aa Tr;obtain⟨av,st,rfl,mC,hst⟩:=Tr;obtain⟨ap,ac,rfl,_,_⟩:=mC.cap;obtain⟨eN,eR,rfl,_,_⟩:=hst.cap;obtain⟨r1,r2,r3,r4,r5⟩:=zZ (HC.o.re v Zr s hsm);have HR1:=aa r1;have E3:=aa r2;have HR3:=aa r3;have WD:=aa r4;have HR5:=aa r5;have MH:=aa (JH (HC.o.sg v Zr j s hs).1);have hzz:=HC.o.sz v Zr s hsm;have hl0:=hzz.fm.l0;have hl1:=hzz.fm.l1;have GF:=((HC.o.gi.sz.vz v Zr).seg s hsm).1;have hns:v.name.size<=1000000000:=by have:=za (Hz (HC.o.vo i v hv0)).1;omega
   subst hsp3;have Tl:=Uu.o.block b3 PV;obtain⟨y0,y1,y2,y3,y4,y5,y6,y7,y8,y9,y10⟩:=ak5 Tl hcv3;clear Tl;have cT:=Uu.o.block b cX;have av8:=Q5.o;obtain⟨x0,x1,x2,x3,x4,x5⟩:=NG cT av8;clear cT av8;have aC5:=cC cX Uu.o.size;have ai6:=cC PV Uu.o.size;have ao7:=XU;clear hcv3 mC hst hzz hs r1 r2 r3 r4 r5;go_upto_region 35 with(fail);refine Jo _ wr Bg b off i g.F9.length a.vc v tp tc b3 off3 j sc s ap eN ac eR ⟨g7,x0,x1,x2,x3,x4,x5,y0,y1,y2,y3,y4,y5,y6,y7,y8,y9,y10⟩ (by
    intro q hq;simp only[dr,cY,dg]at hq;rcases hq with rfl|rfl|rfl
    ·exact aq Mj.o
    ·exact aC5
    exact ai6) hlt hlt2 (aa ?_) (fun _ _ _ _ _ h=>h)
   intro b1 b2 W5 u149 u150 u151 u152 u153 u154 u155 u156 u157 u158 u159 u160 u161 u162 hbW hk1 hk2;clear y0 y1 y2 y3 y4 y5 y6 y7 y8 y9 y10 x0 x1 x2 x3 x4 x5 g7;replace Mj:=Zbk hbW Mj;replace MI:=aa (MI.o.mv (Mv.of hbW));have pL:=Zbl Uu hbW;have Nc:=aa (bC.moves.mv (Mv.of pL.o) XU.o);have Wx:=aa (aN.moves.mv (Mv.of pL.o) My.o);have XR:=aa hk1;have Nb:=aa hk2;clear hbW hk1 hk2 Uu;have gL:=mi Mj.o;obtain⟨g0,g1,g2,g3,g4,g5,g6,g7,g8⟩:=xr gL;clear gL;have sL:=mi Nb.o;obtain⟨s0,s1,s2,s3,s4,s5,s6,s7,s8,s9,s10⟩:=IC sL;clear sL;go_wp2_with fail;clear g0 g1 g2 g3 g4 g5 g6 g7 g8 s0 s1 s2 s3 s4 s5 s6 s7 s8 s9 s10;refine(JM g a s _ W5 Nc.o MI.o HC.o.gi.sz GF HR1.o).mono ?_;rintro e W6 ⟨rfl,hb⟩;replace Mj:=Zbk hb Mj;replace Nb:=Zbk hb Nb;replace XR:=Zbk hb XR;replace MI:=aa (MI.o.mv (Mv.of hb));replace Nc:=aa (bC.moves.mv (Mv.of hb) Nc.o);replace Wx:=aa (aN.moves.mv (Mv.of hb) Wx.o);replace pL:=Zbl pL hb;clear hb;have gL:=mi Mj.o;obtain⟨g0,g1,g2,g3,g4,g5,g6,g7,g8⟩:=xr gL;clear gL;have sL:=mi Nb.o;obtain⟨s0,s1,s2,s3,s4,s5,s6,s7,s8,s9,s10⟩:=IC sL;clear sL;go_wp2_with fail;clear g0 g1 g2 g3 g4 g5 g6 g7 g8 s0 s1 s2 s3 s4 s5 s6 s7 s8 s9 s10;refine(JW g a s _ W6 Nc.o MI.o HC.o.gi.sz GF ⟨TcN,TcN⟩ (fun d hd=>by have:=HC.o.pf.de d hd;omega) E3.o).mono ?_;rintro e W7 ⟨rfl,hb⟩;replace Mj:=Zbk hb Mj;replace Nb:=Zbk hb Nb;replace XR:=Zbk hb XR;replace MI:=aa (MI.o.mv (Mv.of hb));replace Nc:=aa (bC.moves.mv (Mv.of hb) Nc.o);replace Wx:=aa (aN.moves.mv (Mv.of hb) Wx.o);replace pL:=Zbl pL hb;clear hb;have sL:=mi Nb.o;obtain⟨s0,s1,s2,s3,s4,s5,s6,s7,s8,s9,s10⟩:=IC sL;clear sL;have xL:=mi XR.o;obtain⟨x0,x1,x2,x3,x4,x5⟩:=sv6 xL;clear xL;go_wp2_with fail;clear s0 s1 s2 s3 s4 s5 s6 s7 s8 s9 s10 x0 x1 x2 x3 x4 x5;refine(Ki v s _ _ W7 Wx.o Nc.o GF hns MH.o.1 MH.o.2.1 MH.o.2.2 HR3.o).mono ?_;rintro e W8 ⟨rfl,hb⟩;replace Mj:=Zbk hb Mj;replace Nb:=Zbk hb Nb;replace XR:=Zbk hb XR;replace MI:=aa (MI.o.mv (Mv.of hb));replace Nc:=aa (bC.moves.mv (Mv.of hb) Nc.o);replace Wx:=aa (aN.moves.mv (Mv.of hb) Wx.o);replace pL:=Zbl pL hb;clear hb;have gL:=mi Mj.o;obtain⟨g0,g1,g2,g3,g4,g5,g6,g7,g8⟩:=xr gL;clear gL;have sL:=mi Nb.o;obtain⟨s0,s1,s2,s3,s4,s5,s6,s7,s8,s9,s10⟩:=IC sL;clear sL;go_wp2_with fail;clear g0 g1 g2 g3 g4 g5 g6 g7 g8 s0 s1 s2 s3 s4 s5 s6 s7 s8 s9 s10;refine(Kh g a s _ W8 Nc.o MI.o HC.o.gi.sz GF WD.o HR5.o).mono ?_;rintro e W9 ⟨rfl,hb⟩;replace Mj:=Zbk hb Mj;replace Nb:=Zbk hb Nb;replace XR:=Zbk hb XR;replace MI:=aa (MI.o.mv (Mv.of hb));replace Nc:=aa (bC.moves.mv (Mv.of hb) Nc.o);replace Wx:=aa (aN.moves.mv (Mv.of hb) Wx.o);replace pL:=Zbl pL hb;clear hb;clear Mj MI Nc Wx XR Nb;go_wp2;go_roundw;exact⟨j+1,TcN,TcR,pL.o⟩;simp[intOf];omega
  exact TbK
 clear hi;have HX5:=aa HB.o;have g7:=mi Mj.o 7 _ rfl;have g6:=mi Mj.o 6 _ rfl;clear MI Mj;go_wp2;clear g6 g7 hlt;go_loopw[17] (fun z wr=>∃i:Nat,i<=g.F9.length/\z=.int .i64 i/\Below W1.heap.size W1 wr) (fun z _=>g.F9.length-(intOf z).toNat)
 exact⟨0,cg _,rfl,HX5.o⟩;obtain⟨i,hi,rfl,hB⟩:=hrel;have HB:=aa hB;clear hB;have Mj:=Zbk HB.o Ml;have MI:=aa (HG1.o.mv (Mv.of HB.o));by_cases hlt:i<g.F9.length
 ·obtain⟨v,hv⟩:=aj g.F9 i hlt;have Zr:=ct hv;have as0:=HC.o.vs v Zr;obtain⟨b,off,us,hsp,_,cX,_,eE,hcv⟩:=HG1.o.F9.elem hv;obtain⟨tv,sv,rfl,ew,fL⟩:=eE;obtain⟨tp,tc,rfl,_,_⟩:=ew.cap;obtain⟨sp,sc,rfl,_,_⟩:=fL.cap;have Ug:=aa hsp;have Zv:=aa fL;have Q5:=aa hcv;have My:Hid (aN ok W1 _ v):=aa ⟨_,_,rfl,ew,fL⟩;clear hsp ew fL hcv;clear hv;have g7:=mi Mj.o 7 _ rfl;clear Mj MI;go_wp2;clear g7;go_loopw[18] (fun z wr=>∃j:Nat,j<=v.Gf.length/\z=.int .i64 j/\Below W1.heap.size W1 wr) (fun z _=>v.Gf.length-(intOf z).toNat)
  exact⟨0,cg _,rfl,HB.o⟩;clear HB;obtain⟨j,hj,rfl,hB⟩:=hrel;have Uu:=aa hB;clear hB;have Mj:=Zbk Uu.o Ml;have MI:=aa (HG1.o.mv (Mv.of Uu.o));have g7:=mi Mj.o 7 _ rfl;rw[Ug.o]at g7;have x5:=(cd (a:=⟨b,off+i*6+5,none⟩) (Uu.o.block b cX)).trans (Q5.o 5 _ rfl);by_cases hlt2:j<v.Gf.length
  ·obtain⟨s,hs⟩:=aj v.Gf j hlt2;have hsm:=ct hs;obtain⟨b3,off3,us3,hsp3,_,PV,_,Tr,hcv3⟩:=Zv.o.elem hs;have XU:=aa Tr;obtain⟨av,st,rfl,mC,hst⟩:=Tr;obtain⟨ap,ac,rfl,_,_⟩:=mC.cap;obtain⟨eN,eR,rfl,_,_⟩:=hst.cap;subst hsp3;have Tl:=Uu.o.block b3 PV;obtain⟨y0,y1,y2,y3,y4,y5,y6,y7,y8,y9,y10⟩:=ak5 Tl hcv3;clear Tl;have ai6:=cC PV Uu.o.size;have HZQ:=aa fun q:fo=>Kk g a s _ (ext wr q) (bC.moves.mv (Mv.of (Uu.o.trans ((dQ wr q).mono Uu.o.size))) XU.o) (MI.o.mv (Mv.of (dQ wr q))) HC.o.gi.sz HC.o.lb HC.o.ex (HC.o.sz v Zr s hsm) (HC.o.si v Zr s hsm);clear hcv3 mC hst hs
   go_upto_region 50 with(fail);clear g7 x5;obtain⟨g0,g1,g2,g3,g4,g5,g6,g7,g8⟩:=Hr Mj.o;rw[Ug.o]at g7 HZQ;have x5:=aG (cC cX Uu.o.size) ((cd (a:=⟨b,off+i*6+5,none⟩) (Uu.o.block b cX)).trans (Q5.o 5 _ rfl));replace y0:=aG ai6 y0;replace y1:=aG ai6 y1;replace y2:=aG ai6 y2;replace y3:=aG ai6 y3;replace y4:=aG ai6 y4;replace y5:=aG ai6 y5;replace y6:=aG ai6 y6;replace y7:=aG ai6 y7;replace y8:=aG ai6 y8;replace y9:=aG ai6 y9;replace y10:=aG ai6 y10;clear Mj MI;(refine aU TcP TcP ?_;(repeat(go_big_quiet_step ((go_at_call 91;exact iH (HZQ.o _)))));(with_reducible refine fR ?_);intro wq ia;have kq:=dY ia;clear ia)
   have o0:=Zbl Uu kq;clear kq g0 g1 g2 g3 g4 g5 g6 g7 g8 x5 y0 y1 y2 y3 y4 y5 y6 y7 y8 y9 y10 HZQ Uu;exact Tb4
  exact TbK
 clear hi;have gL:=mi Mj.o;obtain⟨g0,g1,g2,g3,g4,g5,g6,g7,g8⟩:=xr gL;clear gL;go_wp2_with fail;clear g0 g1 g2 g3 g4 g5 g6 g7 g8 hlt;refine(JD g a wr MI.o.F9 (by have:=HC.o.pf.vl;omega) HC.o.pf.tm (by have:=HC.o.pf.pn;omega) HC.o.row HC.o.pos).mono ?_;rintro e w7 ⟨rfl,hb7⟩;have MT:=Zbl HB hb7;have g7:=mi ((hb7.block _ (aq Mj.o)).trans Mj.o) 7 _ rfl;clear hb7 Mj MI HB;go_wp2;clear g7;go_loopw[21] (fun z wr=>∃i:Nat,i<=g.F9.length/\z=.int .i64 i/\Below W1.heap.size W1 wr) (fun z _=>g.F9.length-(intOf z).toNat)
 exact⟨0,cg _,rfl,MT.o⟩;obtain⟨i,hi,rfl,hB⟩:=hrel;have HB:=aa hB;clear hB;have Mj:=Zbk HB.o Ml;have MI:=aa (HG1.o.mv (Mv.of HB.o));by_cases hlt:i<g.F9.length
 ·obtain⟨v,hv⟩:=aj g.F9 i hlt;have Zr:=ct hv;have as0:=HC.o.vs v Zr;obtain⟨b,off,us,hsp,_,cX,_,eE,hcv⟩:=HG1.o.F9.elem hv;obtain⟨tv,sv,rfl,ew,fL⟩:=eE;obtain⟨tp,tc,rfl,_,_⟩:=ew.cap;obtain⟨sp,sc,rfl,_,_⟩:=fL.cap;have Ug:=aa hsp;have Zv:=aa fL;have Q5:=aa hcv;have My:Hid (aN ok W1 _ v):=aa ⟨_,_,rfl,ew,fL⟩;clear hsp ew fL hcv;have hv0:=hv;clear hv;have g7:=mi Mj.o 7 _ rfl;clear Mj MI;go_wp2;clear g7;go_loopw[22] (fun z wr=>∃j:Nat,j<=i/\z=.int .i64 j/\Below W1.heap.size W1 wr) (fun z _=>i-(intOf z).toNat)
  exact⟨0,cg _,rfl,HB.o⟩;clear HB;obtain⟨j,hj,rfl,hB⟩:=hrel;have Uu:=aa hB;clear hB;by_cases hlt2:j<i
  ·obtain⟨x,hx⟩:=aj g.F9 j TcN;have Mj:=Zbk Uu.o Ml;have g7:=mi Mj.o 7 _ rfl;rw[Ug.o]at g7;have hxm:=ct hx;have Xq:=aa fun s t=>HC.o.thin i j v x s t hlt2 hv0 hx;obtain⟨bx,aD4,usx,ax6,_,aD5,_,aA3,aA4⟩:=HG1.o.F9.elem hx;rw[Ug.o]at ax6;simp only[Option.some.injEq,Addr.mk.injEq,and_true]at ax6;obtain⟨rfl,rfl⟩:=ax6;have OB:=aa aA3;obtain⟨tvx,svx,rfl,aA5,ax7⟩:=aA3;obtain⟨tpx,tcx,rfl,_,_⟩:=aA5.cap;obtain⟨spx,scx,rfl,_,_⟩:=ax7.cap;have aC6:=aa ax7;have hkv:v.Gf.length<=1000000000:=by omega
   have hkx:x.Gf.length<=1000000000:=by have:=HC.o.vs x hxm;omega
   have cT:=Uu.o.block b cX;have av8:=Q5.o;obtain⟨y0,y1,y2,y3,y4,y5⟩:=NG cT av8;obtain⟨z0,z1,z2,z3,z4,z5⟩:=NG cT aA4;clear cT av8;have hbl:=cC cX Uu.o.size;have MK:j<g.F9.length:=by omega
   clear aA4 aA5 ax7 hx;go_upto_region 61 with(fail);refine Ju _ wr Bg b off i g.F9.length a.vc v tp tc sp sc j x tpx spx tcx scx ⟨g7,y0,y1,y2,y3,y4,y5,z0,z1,z2,z3,z4,z5⟩ (by
    intro q hq;simp only[dr,cY,dg]at hq;rcases hq with rfl|rfl
    ·exact aq Mj.o
    exact hbl) hlt MK (aa ?_) (fun _ _ _ _ _ h=>h)
   intro b1 b2 W5 u246 u247 u248 u249 u250 u251 u252 u253 u254 u255 hbW hk1 hk2;clear y0 y1 y2 y3 y4 y5 z0 z1 z2 z3 z4 z5 g7;have pL:=Zbl Uu hbW;have HKV:=aa fun q:fo=>aN.moves.mv (Mv.of (pL.o.trans ((dQ W5 q).mono pL.o.size))) My.o;have HKX:=aa fun q:fo=>aN.moves.mv (Mv.of (pL.o.trans ((dQ W5 q).mono pL.o.size))) OB.o;obtain⟨y0,y1,y2,y3,y4,y5⟩:=I6 hk1;obtain⟨z0,z1,z2,z3,z4,z5⟩:=I6 hk2;clear hbW hk1 hk2 Uu Mj
   go_upto_region 62 with(fail);by_cases k1:eZ v=6
   ·have e1:(eZ v==6)=true:=by rw[k1];rfl
    by_cases k2:eZ x=6
    ·have e2:(eZ x==6)=true:=by rw[k2];rfl
     obtain⟨s,hs1,hs2⟩:=Ja k1;obtain⟨t,ht1,ht2⟩:=Ja k2;have hth:=Xq.o s t hs1 ht1 hs2 ht2;have hs0:v.Gf[0]?=some s:=by rw[hs1];rfl
     have ht0:x.Gf[0]?=some t:=by rw[ht1];rfl
     have mb:0<v.Gf.length:=by rw[hs1];exact Nat.succ_pos _
     have vh:0<x.Gf.length:=by rw[ht1];exact Nat.succ_pos _
     obtain⟨bs,os,uss,aA6,_,aA7,_,aC7,ax8⟩:=Zv.o.elem hs0;obtain⟨_,_,rfl,_,_⟩:=aC7;obtain⟨bt,ot,ust,aA8,_,aA9,_,aC8,ax9⟩:=aC6.o.elem ht0;obtain⟨_,_,rfl,_,_⟩:=aC8;have CH:∀m z,W1.cell? ⟨bs,os+m,none⟩=some z->∀q,(ext W5 q).cell? ⟨bs,os+m,none⟩=some z:=fun m z h=>aG (cC aA7 pL.o.size) ((pL.o.cell (p:=⟨bs,os+m,none⟩) aA7).trans h);have YL:∀m z,W1.cell? ⟨bt,ot+m,none⟩=some z->∀q,(ext W5 q).cell? ⟨bt,ot+m,none⟩=some z:=fun m z h=>aG (cC aA9 pL.o.size) ((pL.o.cell (p:=⟨bt,ot+m,none⟩) aA9).trans h);have p7:=CH 7 _ (by have:=ax8 7 _ rfl;rwa[Nat.zero_mul,fg]at this);have p8:=CH 8 _ (by have:=ax8 8 _ rfl;rwa[Nat.zero_mul,fg]at this);have t7:=YL 7 _ (by have:=ax9 7 _ rfl;rwa[Nat.zero_mul,fg]at this);have t8:=YL 8 _ (by have:=ax9 8 _ rfl;rwa[Nat.zero_mul,fg]at this);rw[aA6]at y5 HKV;rw[aA8]at z5 HKX;clear ax8 ax9 CH YL hs0 ht0 hs1 ht1 hs2 ht2 k1 k2 aA6 aA8
     by_cases Un:s.pool=t.pool
     ·have hdd:(s.device==t.device)=false:=beq_eq_false_iff_ne.2 (hth.resolve_left fun q=>q Un);rw[Un]at p7;clear hth Un;(refine aU TcP TcP ?_;(repeat(go_big_quiet_step ((go_at_call 93;first|exact iH (pq _ _ _ (HKV.o _) hkv)|exact iH (pq _ _ _ (HKX.o _) hkx)))));(with_reducible refine fR ?_);intro wq ia;have kq:=dY ia;clear ia)
      have o0:=Zbl pL kq;clear kq y0 z0 y1 z1 y2 z2 y3 z3 y4 z4 y5 z5 e1 e2 p7 p8 t7 t8 hdd;exact Tb4
     have Mu:=jI Un;clear hth Un;(refine aU TcP TcP ?_;(repeat(go_big_quiet_step ((go_at_call 93;first|exact iH (pq _ _ _ (HKV.o _) hkv)|exact iH (pq _ _ _ (HKX.o _) hkx)))));(with_reducible refine fR ?_);intro wq ia;have kq:=dY ia;clear ia)
     have o0:=Zbl pL kq;clear kq y0 z0 y1 z1 y2 z2 y3 z3 y4 z4 y5 z5 e1 e2 p7 p8 t7 t8 Mu;exact Tb4
    have e2:(eZ x==6)=false:=beq_eq_false_iff_ne.2 k2;clear k1 k2;(refine aU TcP TcP ?_;(repeat(go_big_quiet_step ((go_at_call 93;first|exact iH (pq _ _ _ (HKV.o _) hkv)|exact iH (pq _ _ _ (HKX.o _) hkx)))));(with_reducible refine fR ?_);intro wq ia;have kq:=dY ia;clear ia)
    have o0:=Zbl pL kq;clear kq y0 z0 y1 z1 y2 z2 y3 z3 y4 z4 y5 z5 e1 e2;exact Tb4
   have e1:(eZ v==6)=false:=beq_eq_false_iff_ne.2 k1;clear k1;(refine aU TcP TcP ?_;(repeat(go_big_quiet_step ((go_at_call 93;first|exact iH (pq _ _ _ (HKV.o _) hkv)|exact iH (pq _ _ _ (HKX.o _) hkx)))));(with_reducible refine fR ?_);intro wq ia;have kq:=dY ia;clear ia)
   have o0:=Zbl pL kq;clear kq y0 z0 y1 z1 y2 z2 y3 z3 y4 z4 y5 z5 e1;exact Tb4
  exact TcF
 clear hi;have HX9:=aa HB.o;have g7:=mi Mj.o 7 _ rfl;have g6:=mi Mj.o 6 _ rfl;clear MI Mj;go_wp2;clear g6 g7 hlt;go_loopw[25] (fun i wr=>∃k:Nat,k<=g.F9.length/\i=.int .i64 k/\Below W1.heap.size W1 wr) (fun i _=>g.F9.length-(intOf i).toNat)
 exact⟨0,cg _,rfl,HX9.o⟩;obtain⟨k,hk,rfl,hB⟩:=hrel;have HB:=aa hB;clear hB;have Mj:=Zbk HB.o Ml;have MI:=aa (HG1.o.mv (Mv.of HB.o));by_cases hlt:k<g.F9.length
 ·obtain⟨d,hd⟩:=aj g.F9 k hlt;have HCL:=aa (Kr g a k d wr MI.o.F9 (by have:=HC.o.pf.vl;omega) HC.o.gi.sz.vz HC.o.ul hd (HC.o.us d (ct hd)).1 (HC.o.us d (ct hd)).2);exact Ta3
 clear hk;have g7:=mi Mj.o 7 _ rfl;have TF:=Zbl HW1 HB.o;clear Mj MI;go_wp2;go_ret2;exact⟨rfl,TF.o⟩
theorem Gy :Dr r=false↔¬((1<=r.Gi/\r.Gi<=6)/\(1<=r.Gh/\r.Gh<=6)/\r.Gi*r.Gh<=6/\(1<=r.Gc/\r.Gc<=4096)):=by
 rw[<- Bool.not_eq_true];refine not_congr ?_;unfold Dr Ek;simp only[eh,fk];exact⟨fun⟨⟨⟨h1,h2⟩,h3⟩,h4⟩=>⟨h1,h2,h3,h4⟩,fun⟨h1,h2,h3,h4⟩=>⟨⟨⟨h1,h2⟩,h3⟩,h4⟩⟩
theorem JG :Ek r.Gg 5=false↔¬(1<=r.Gg/\r.Gg<=5):=by
 rw[<- Bool.not_eq_true];refine not_congr ?_;unfold Ek;simp only[eh,fk]
theorem GJ(s:ByteArray)(w:World)(hs:s.size<=9223372036854775807):Calls prog 48 #[.string s] w fun e w'=>e=.returned (.bool (mr s))/\Below w.heap.size w w' :=
 (Jz s w hs).mono fun _ _ ⟨h,e⟩=>⟨h,e ▸ bj _ _⟩
theorem Tcq{p:Prop}(h:p:=by
 go_wp2;go_ret;exact⟨cz HE.o.symm,cm.o⟩):p:=h
theorem Tdj{p:Prop}(h:p:=by rw[Gy];omega):p:=h
theorem Jt{ok:Nat->Prop}(g:af)(a:bN)(r:aY)(w:World)(hg:dN ok w g a)(hc:K5 g)(hr:dK r) :
  Calls prog 20 #[.agg (Tad g a),.agg (Taj r)] w fun e w'=>e=.returned (.int .i64 (yZ g r))/\Below w.heap.size w w':=by
 have Zu:Hid (r.tag.size<=9223372036854775807/\r.sep.size<=9223372036854775807):=aa ⟨hr.t,hr.q⟩;have HC:=aa hc;have HE:Hid (yZ g r=_):=aa (yZ.eq_1 g r);have mb:g.F9.length<=1000000:=hc.gi.sz.vl;have hA1:=ae w (.cells (Tad g a) 32);have hA2:=ae (w.alloc (.cells (Tad g a) 32)) (.cells (Taj r) 24);have hN1:=b9 w (.cells (Tad g a) 32);have o0:=aa (b9 (w.alloc (.cells (Tad g a) 32)) (.cells (Taj r) 24));have Mk:=aa ((hA2.block _ (aq hN1)).trans hN1);have HB:=aa (hA1.trans (hA2.mono hA1.size));have HG1:=aa (hg.mv (Mv.of HB.o));clear hA1 hA2 hN1 hg hc hr;rw[cW]at o0;go_enter func20,ntmps20
 go_upto_region 1 with(fail);generalize World.alloc (World.alloc w _) _=W1 at *;generalize hE1:w.heap.size+1=Bq at o0 ⊢;generalize hE0:w.heap.size=Bg at Mk ⊢;clear hE1 hE0;have gL:=mi Mk.o;obtain⟨g0,g1,g2,g3,g4,g5,g6,g7,g8⟩:=xr gL;clear gL;go_wp2_with fail;clear g0 g1 g2 g3 g4 g5 g6 g7 g8;refine(Ko g a W1 HG1.o HC.o).mono ?_;rintro e w2 ⟨rfl,hb2⟩;have aB0:=Zbk hb2 Mk;have aw7:=Zbk hb2 o0;have HG2:=aa (HG1.o.mv (Mv.of hb2));have cm:=Zbl HB hb2;clear hb2 Mk o0 HG1 HB;have qL:=mi aw7.o;obtain⟨q0,q1,q2,q3,q4,q5,q6⟩:=se qL;clear qL;by_cases c1:r.Gi<1
 ·replace HE:=aa (HE.o.trans (aw Tdj));have d1:decide (r.Gi<1)=true:=eA c1;exact Tcq
 have d1:decide (r.Gi<1)=false:=cN c1;by_cases c2:6<r.Gi
 ·replace HE:=aa (HE.o.trans (aw Tdj));have d2:decide (6<r.Gi)=true:=eA c2;exact Tcq
 have d2:decide (6<r.Gi)=false:=cN c2;by_cases c3:r.Gh<1
 ·replace HE:=aa (HE.o.trans (aw Tdj));have d3:decide (r.Gh<1)=true:=eA c3;exact Tcq
 have d3:decide (r.Gh<1)=false:=cN c3;by_cases c4:6<r.Gh
 ·replace HE:=aa (HE.o.trans (aw Tdj));have d4:decide (6<r.Gh)=true:=eA c4;exact Tcq
 have d4:decide (6<r.Gh)=false:=cN c4;have hm0:0<=r.Gi*r.Gh:=oA TcN TcN;have hm1:r.Gi*r.Gh<=6*6:=tW TcN TcN TcN TcN;have hwp:IntKind.i64.wrap (r.Gi*r.Gh)=r.Gi*r.Gh:=dy _ TcN;by_cases c5:6<r.Gi*r.Gh
 ·replace HE:=aa (HE.o.trans (aw Tdj));have d5:decide (6<r.Gi*r.Gh)=true:=eA c5;exact Tcq
 have d5:decide (6<r.Gi*r.Gh)=false:=cN c5;by_cases c6:r.Gc<1
 ·replace HE:=aa (HE.o.trans (aw Tdj));have d6:decide (r.Gc<1)=true:=eA c6;exact Tcq
 have d6:decide (r.Gc<1)=false:=cN c6;by_cases c7:4096<r.Gc
 ·replace HE:=aa (HE.o.trans (aw Tdj));have d7:decide (4096<r.Gc)=true:=eA c7;exact Tcq
 have d7:decide (4096<r.Gc)=false:=cN c7;replace HE:=aa (HE.o.trans (bh Tdj));go_upto_region 6 with(fail);clear d1 d2 d3 d4 d5 d6 d7 c1 c2 c3 c4 c5 c6 c7 hm0 hm1 hwp q0 q1 q2;by_cases p1:r.Gg<1
 ·replace HE:=aa (HE.o.trans (aw (by rw[JG];omega)));have d1:decide (r.Gg<1)=true:=eA p1;exact Tcq
 have d1:decide (r.Gg<1)=false:=cN p1;by_cases p2:5<r.Gg
 ·replace HE:=aa (HE.o.trans (aw (by rw[JG];omega)));have d2:decide (5<r.Gg)=true:=eA p2;exact Tcq
 have d2:decide (5<r.Gg)=false:=cN p2;replace HE:=aa (HE.o.trans (bh (by rw[JG];omega)));go_upto_region 8 with(fail);clear d1 d2 p1 p2;have gL:=mi aB0.o;obtain⟨g0,g1,g2,g3,g4,g5,g6,g7,g8⟩:=xr gL;clear gL;go_wp2_with fail;clear g0 g1 g2 g3 g4 g5 g6 g7 g8 q3 q4 q5 q6;refine(aj7 g a r.near w2 HG2.o.F9 mb).mono ?_;rintro e w3 ⟨u,kk,rfl,hv,OU,hb3⟩;generalize (aM g.F9 r.near).getD eY=x at *;obtain⟨tv,sv,rfl,ew,fL⟩:=hv;obtain⟨tp,tc,rfl,_,_⟩:=ew.cap;obtain⟨sp,sc,rfl,_,_⟩:=fL.cap;have hA:=ae w3 (.cells (Taf x tp tc sp sc) 57);have G2:=hb3.trans (hA.mono hb3.size);have ap5:=Zbk G2 aw7;have eI:=Zbl cm G2;have MF:=aa OU;clear ew fL hA G2 hb3 OU aB0 HG2 aw7 cm;go_upto_region 9 with(fail);generalize World.alloc w3 _=W4 at *;have qL:=mi ap5.o;have q3:=qL 3 _ rfl;have q5:=qL 5 _ rfl;clear qL;have Tb:Hid (xM g r=_):=aa (xM.eq_1 g r);cases hn:r.near.toList.isEmpty with
 |true =>
  rw[hn,aw rfl]at Tb;by_cases k2:r.Gg=2
  ·have e2:(r.Gg==2)=true:=by rw[k2];rfl
   replace HE:=aa (HE.o.trans (aw (by rw[Tb.o,OC,e2];rfl)));go_wp2;go_ret;exact⟨cz HE.o.symm,eI.o⟩
  have e2:(r.Gg==2)=false:=beq_eq_false_iff_ne.2 k2;by_cases k3:r.Gg=3
  ·have e3:(r.Gg==3)=true:=by rw[k3];rfl
   replace HE:=aa (HE.o.trans (aw (by rw[Tb.o,OC,e2,e3];rfl)));go_wp2;go_ret;exact⟨cz HE.o.symm,eI.o⟩
  have e3:(r.Gg==3)=false:=beq_eq_false_iff_ne.2 k3;replace HE:=aa (HE.o.trans (bh (by rw[Tb.o,OC,e2,e3];simp)));clear k2 k3 Tb;go_upto_region 11 with(fail);clear q3 q5 e2 e3 hn MF;have q4:=aG (aq ap5.o) (mi ap5.o 4 _ rfl);have q6:=aG (aq ap5.o) (mi ap5.o 6 _ rfl);have Rt:=aa fun q:fo=>GJ r.tag (ext W4 q) Zu.o.1;have HT2:=aa fun q:fo=>GJ r.sep (ext W4 q) Zu.o.2;have ht1:∃b,b=mr r.tag:=⟨_,rfl⟩;have ht2:∃b,b=mr r.sep:=⟨_,rfl⟩;obtain⟨b1,hb1⟩:=ht1;obtain⟨b2,hb2⟩:=ht2;rw[<- hb1]at Rt;rw[<- hb2]at HT2;have HOT:Hid ((eu r.tag&&eu r.sep)=((r.tag.toList.isEmpty||b1)&&(r.sep.toList.isEmpty||b2))):=aa (by rw[hb1,hb2];rfl);clear hb1 hb2;cases h4:r.tag.toList.isEmpty<;>cases h6:r.sep.toList.isEmpty<;>cases b1<;>cases b2
  all_goals
   rw[h4,h6]at HOT;(first|(replace HE:=aa (HE.o.trans (aw (HOT.o.trans rfl))))|(replace HE:=aa (HE.o.trans (bh (by rw[HOT.o];decide)))))
   clear HOT;(refine wp_region_quiet_lit ?_;(repeat(go_big_quiet_step (((first|(go_at_call 48;exact iH (Rt.o _))|(go_at_call 48;exact iH (HT2.o _)))))));(with_reducible refine fR ?_);intro wq ia;have kq:=dY ia;clear ia)
   have eK:=Zbl eI kq;clear kq q4 q6;go_wp2;go_ret;exact⟨cz HE.o.symm,eK.o⟩
 |false =>
  rw[hn,bh TcO]at Tb;cases hs:(aM g.F9 r.near).isSome with
  |false =>
   rw[hs]at Tb MF;have hk:decide (kk<0)=true:=MF.o;replace HE:=aa (HE.o.trans (aw Tb.o));go_wp2;go_ret;exact⟨cz HE.o.symm,eI.o⟩
  |true =>
   rw[hs]at Tb MF;have hk:decide (kk<0)=false:=MF.o;replace HE:=aa (HE.o.trans (bh (by rw[Tb.o];simp)));clear Tb;go_upto_region 11 with(fail);clear q3 q5 hn hk MF hs;have q4:=aG (aq ap5.o) (mi ap5.o 4 _ rfl);have q6:=aG (aq ap5.o) (mi ap5.o 6 _ rfl);have Rt:=aa fun q:fo=>GJ r.tag (ext W4 q) Zu.o.1;have HT2:=aa fun q:fo=>GJ r.sep (ext W4 q) Zu.o.2;have ht1:∃b,b=mr r.tag:=⟨_,rfl⟩;have ht2:∃b,b=mr r.sep:=⟨_,rfl⟩;obtain⟨b1,hb1⟩:=ht1;obtain⟨b2,hb2⟩:=ht2;rw[<- hb1]at Rt;rw[<- hb2]at HT2;have HOT:Hid ((eu r.tag&&eu r.sep)=((r.tag.toList.isEmpty||b1)&&(r.sep.toList.isEmpty||b2))):=aa (by rw[hb1,hb2];rfl);clear hb1 hb2;cases h4:r.tag.toList.isEmpty<;>cases h6:r.sep.toList.isEmpty<;>cases b1<;>cases b2
   all_goals
    rw[h4,h6]at HOT;(first|(replace HE:=aa (HE.o.trans (aw (HOT.o.trans rfl))))|(replace HE:=aa (HE.o.trans (bh (by rw[HOT.o];decide)))))
    clear HOT;(refine wp_region_quiet_lit ?_;(repeat(go_big_quiet_step (((first|(go_at_call 48;exact iH (Rt.o _))|(go_at_call 48;exact iH (HT2.o _)))))));(with_reducible refine fR ?_);intro wq ia;have kq:=dY ia;clear ia)
    have eK:=Zbl eI kq;clear kq q4 q6;go_wp2;go_ret;exact⟨cz HE.o.symm,eK.o⟩
theorem lh{ok:Nat->Prop}(l:List ByteArray)(v:Value)(x:ByteArray)(w:World)(h:b6 aF 1 ok w [v] l)(hl:l.length<=1000000) :
  Calls prog 64 #[v,.string x] w fun e w'=>e=.returned (.bool (bI l x))/\w=w':=by
 obtain⟨p,cap,rfl,hc1,hc2⟩:=h.cap;have HH:=aa h;clear h;go_enter func64,ntmps64;exact TaT
def iw(d:az):List (Int × Int):=[(0,max d.Gc 0)]
theorem bM.one{w:World}{b:Nat}{p:Int × Int}(B:Nat)(hB:B<=b)(h:w.heap[b]?=some (.cells #[.int .i64 p.1,.int .i64 p.2] 93 (0,0))):xo w (.slice (some b) 1 1) [p] :=
 ⟨_,1,rfl,TcO,TcN,fun _=>⟨b,0,rfl,aq h,fun i q hq=>by
  match i,hq with
  |0,hq =>
   obtain rfl:p=q:=by simpa using hq
   exact⟨cr h _ _ rfl,cr h _ _ rfl⟩
  |i+1,hq=>simp at hq⟩⟩
theorem wE(d:az)(tp:Option Addr)(tc:Nat)(w:World) :
  Calls prog 69 #[.agg (Tah d tp tc)] w fun e w'=>∃v,e=.returned v/\xo w' v (iw d)/\Below w.heap.size w w':=by
 have hA:=ae w (.cells (Tah d tp tc) 39);have sX:=aa (b9 w (.cells (Tah d tp tc) 39));have HB:=aa hA;clear hA;have HW:Hid (iw d=[(0,max d.Gc 0)]):=aa rfl;go_enter func69,ntmps69
 go_upto_region 1 with(fail);generalize hW1:World.alloc w _=W1 at *;have Ks:=HB;clear hW1 HB;have d3:=cr sX.o 3 _ rfl;by_cases h:0<=d.Gc
 ·have hm:max d.Gc 0=d.Gc:=by omega
  rw[hm]at HW;go_wp2;go_ret;exact⟨_,rfl,by rw[HW.o];exact bM.one (p:=(0,d.Gc)) 0 (cg _) (b9 W1 _),Ks.o.alloc Ks.o.size _⟩
 have hm:max d.Gc 0=0:=by omega
 rw[hm]at HW;go_wp2;go_ret;exact⟨_,rfl,by rw[HW.o];exact bM.one (p:=(0,0)) 0 (cg _) (b9 W1 _),Ks.o.alloc Ks.o.size _⟩
def jK(nm:ByteArray)(ps:List gy):List (Int × Int):=ps.filterMap fun p=>if p.disk=nm then some (p.start,p.len) else none
theorem GG(nm:ByteArray){k:Nat}{x:gy}(h:ps[k]?=some x):jK nm (ps.take (k+1))=jK nm (ps.take k)++if x.disk=nm then [(x.start,x.len)] else []:=by
 rw[take_snoc' ps k x h];unfold jK;rw[E0];congr 1
 by_cases c:x.disk=nm
 ·rw[aw c];simp[c]
 rw[bh c,List.filterMap_cons,bh c];rfl
theorem Le(nm:ByteArray)(ps:List gy):(jK nm ps).length<=ps.length:=List.length_filterMap_le _ _
theorem wW{q:Int × Int}(h:q∈jK nm ps):∃p∈ps,p.disk=nm/\q=(p.start,p.len):=by
 obtain⟨p,hp,e⟩:=List.mem_filterMap.1 h;split at e
 ·rename_i c;exact⟨p,hp,c,(gj e).symm⟩
 cases e
theorem LA(hs:∀p∈ps,0<=p.start/\p.start<=1000000)(hl:∀p∈ps,0<=p.len/\p.len<=1000000):dI (jK nm ps)=true:=by
 unfold dI;rw[eL];intro q hq;obtain⟨p,hp,_,rfl⟩:=wW hq;have:=hs p hp;have:=hl p hp;simp only[nT,eh,fk];omega
theorem Jc{ext:Int}(hs:∀p∈ps,0<=p.start)(n:Int):(Mem (jK nm ps) n/\(0<=n/\n<ext))↔Mem (fM nm ext ps) n:=by
 constructor
 ·rintro⟨⟨q,hq,q1,q2⟩,h0,h1⟩;obtain⟨p,hp,hd,rfl⟩:=wW hq;have:=hs p hp;dsimp only at q1 q2;refine⟨(p.start,min p.len (ext-p.start)),List.mem_filterMap.2 ⟨p,hp,aw ⟨hd,TcN,TcN,TcN⟩⟩,q1,?_⟩;dsimp only;omega
 rintro⟨q,hq,q1,q2⟩;obtain⟨p,hp,e⟩:=List.mem_filterMap.1 hq;split at e
 ·rename_i c;obtain rfl:=gj e;dsimp only at q1 q2;exact⟨⟨(p.start,p.len),List.mem_filterMap.2 ⟨p,hp,aw c.1⟩,q1,TcU⟩,TcN,TcN⟩
 cases e
theorem qF(h:0<=d.Gc)(n:Int):Mem (iw d) n↔0<=n/\n<d.Gc:=by
 unfold iw;rw[ko];dsimp only;omega
theorem sK(h:0<=d.Gc/\d.Gc<=1000000):dI (iw d)=true:=by
 simp only[iw,dI,List.all_cons,List.all_nil,Bool.and_true,nT,eh,fk];omega
def iX(Gb:List az)(S:az->Int->Prop)(N:Nat)(nm:ByteArray)(w:World)(e:Ending)(w':World):Prop:=match bH Gb nm with
 |none=>e=.returned (.tuple #[.slice none 0 0,.int .i64 12])/\Below w.heap.size w w'
 |some d=>∃v x,e=.returned (.tuple #[v,.int .i64 0])/\bM w' w.heap.size v x/\iE x (S d)/\dI x=true/\x.length<=N/\Below w.heap.size w w'
theorem GZ{ok:Nat->Prop}(g:af)(a:bN)(nm:ByteArray)(w:World)(hr:b6 aO 7 ok w [.slice a.dp g.Gb.length a.dc] g.Gb)(hd:g.Gb.length<=1000)(vu:∀D∈g.Gb,0<=D.Gc/\D.Gc<=1000000)
  (hv:b6 aN 6 ok w [.slice a.vp g.F9.length a.vc] g.F9) (mb:g.F9.length<=1000) (ht:qx g.F9) (CH:∀p∈pieces g.F9,0<=p.start/\p.start<=1000000) (hpl:∀p∈pieces g.F9,0<=p.len/\p.len<=1000000) (hpn:(pieces g.F9).length<=100000) :
  Calls prog 67 #[.agg (Tad g a),.string nm] w (iX g.Gb (fun d n=>Mem (fM nm d.Gc (pieces g.F9)) n) 200002 nm w):=by
 have HR:=aa hr;clear hr;have HV:=aa hv;clear hv;have HT:=aa ht;clear ht;have sY:=aa CH;clear CH;have RL:=aa hpl;clear hpl;have kj:=aa vu;clear vu;have Mk:=aa (ae w (.cells (Tad g a) 32));have CN:=aa (b9 w (.cells (Tad g a) 32));have gL:=cr CN.o;go_enter func67,ntmps67
 go_upto_region 1 with(fail);generalize hW1:World.alloc w _=W1 at *;obtain⟨g0,g1,g2,g3,g4,g5,g6,g7,g8⟩:=xr gL;clear gL hW1;have HFD:=aa (GK (ok:=ok) g a nm W1 ((b6.moves aO.moves).mv (Mv.of Mk.o) HR.o) TcN);go_wp2_with fail;clear g0 g1 g2 g3 g4 g5 g6 g7 g8;refine HFD.o.mono ?_;clear HFD;rintro e w2 ⟨u,k,rfl,Qw,Ta,hb2⟩;have cm:=Zbl Mk hb2;have pH:=Zbk hb2 CN;obtain⟨tv,rfl,ew⟩:=Qw;obtain⟨tp,tc,rfl,_,_⟩:=ew.cap;clear ew hb2;cases hf:bH g.Gb nm with
 |none =>
  rw[hf]at Ta;have hk0:k<0:=by simpa using Ta
  have HRU:Hid (∀e' w',iX g.Gb (fun d n=>Mem (fM nm d.Gc (pieces g.F9)) n) 200002 nm w e' w'=(e'=.returned (.tuple #[.slice none 0 0,.int .i64 12])/\Below w.heap.size w w')):=aa fun e' w'=>by unfold iX;rw[hf]
  simp only[Option.getD_none];clear hf Ta;generalize gT=d at *;have hA:=ae w2 (.cells (Tah d tp tc) 39);have cJ:=Zbl cm hA;clear hA;go_wp2;go_ret2;rw[HRU.o];exact⟨rfl,cJ.o⟩
 |some d =>
  rw[hf]at Ta;have hk0:¬k<0:=by simpa using Ta
  have HRU:Hid (∀e' w',iX g.Gb (fun d n=>Mem (fM nm d.Gc (pieces g.F9)) n) 200002 nm w e' w'=(∃v x,e'=.returned (.tuple #[v,.int .i64 0])/\bM w' w.heap.size v x/\iE x (fun n=>Mem (fM nm d.Gc (pieces g.F9)) n)/\dI x=true/\x.length<=200002/\Below w.heap.size w w')):=aa fun e' w'=>by unfold iX;rw[hf]
  have vu:=kj.o d (eV hf);have HDX:=aa vu;clear vu;simp only[Option.getD_some];clear hf Ta;have hA:=ae w2 (.cells (Tah d tp tc) 39);have sX:=aa (b9 w2 (.cells (Tah d tp tc) 39));have cJ:=Zbl cm hA;have LS:=Zbk hA pH;clear hA cm pH;go_upto_region 5 with(fail);generalize hW3:World.alloc w2 _=W3 at *;generalize hBd:w2.heap.size=Bd at *;clear hW3;have gL:=cr LS.o;obtain⟨g0,g1,g2,g3,g4,g5,g6,g7,g8⟩:=xr gL;clear gL;have SB:=aa (Hg (ok:=ok) g.name g.id g.seq g.Gd g.next a.tp a.dp a.vp a.hp g.tags.length a.tc g.Gb.length a.dc a.vc g.history.length a.hc g.F9 W3 ((b6.moves aN.moves).mv (Mv.of cJ.o) HV.o) mb HT.o hpn);go_wp2_with fail;clear g0 g1 g2 g3 g4 g5 g6 g7 g8;refine SB.o.mono ?_;clear SB;rintro e w4 ⟨pv,rfl,hop,hb4⟩;have kf:b6 Gt 4 (fun _=>True) w4 [pv] (pieces g.F9):=hop.rd Gt.moves TcQ (fun _ _ _=>trivial) (fun _ _=>trivial);have eI:=Zbl cJ hb4;have aw8:=Zbk hb4 sX;clear hop hb4;obtain⟨pp,pc,rfl,Wl,Wm⟩:=kf.cap;have B2:=aa kf;clear kf;have hsz4:=eI.o.size;go_upto_region 7 with(fail);go_loopw[8,10] (fun lv i wr=>∃k:Nat,k<=(pieces g.F9).length/\i=.int .i64 k/\bM wr w4.heap.size lv (jK nm ((pieces g.F9).take k))/\Below w4.heap.size w4 wr) (fun _ i _=>(pieces g.F9).length-(intOf i).toNat)
  exact⟨0,cg _,rfl,bM.nil _ _,bj _ _⟩;obtain⟨m,hm,rfl,hown,hB⟩:=hrel;have HOW:=aa hown;clear hown;have HB:=aa hB;clear hB;have hbl:=Le nm ((pieces g.F9).take m);rw[ey]at hbl;have ay0:=HB.o.size;by_cases hlt:m<(pieces g.F9).length
  ·obtain⟨x,hx⟩:=aj (pieces g.F9) m hlt;obtain⟨b,off,us,hsp,gR,cX,ez,eE,hcv⟩:=B2.o.elem hx;subst hsp;obtain rfl:us=_:=eE;have cT:=HB.o.block b cX;obtain⟨q0,q1,q2,q3⟩:=sw4 cT hcv;have G1:=aa (GG nm hx);clear hx hcv ez cT;by_cases pD:x.disk=nm
   ·have e1:(x.disk.toList==nm.toList)=true:=by rw[pD];simp
    rw[aw pD]at G1;clear pD;go_wp2_with(at_builtin;refine jg rfl _ _ rfl w4.heap.size _ (jK nm ((pieces g.F9).take m)) (x.start,x.len) rfl ?c1 wr.heap.size 1 rfl ?c2 ?c3 ?c4 ?c5 ?_)
    case c1=>exact HOW.o.below (ae _ _)
    all_goals first|(case c2=>exact aD rfl rfl)|(case c3=>exact aD rfl rfl)|(case c4=>omega)|(case c5=>simp;omega)|skip
    intro v' w6 hown1 hb1 _;have Tq:=aa ((HB.o.alloc ay0 _).trans hb1);have HOW6:=aa hown1;clear hb1 hown1;go_wp2;go_roundw;exact⟨m+1,TcN,TcR,by rw[G1.o];exact HOW6.o,Tq.o⟩;simp[intOf];omega
   have e1:=jI pD;rw[bh pD,eM]at G1;clear pD;go_wp2;go_roundw;exact⟨m+1,TcN,TcR,by rw[G1.o];exact HOW.o,HB.o⟩;simp[intOf];omega
  obtain rfl:m=(pieces g.F9).length:=by omega
  rw[cI]at HOW hbl;have pB:=(HB.o.block _ (aq aw8.o)).trans aw8.o;have dL:=cr pB;obtain⟨d0,d1,d2,d3,d4,d5,d6⟩:=se dL;clear dL pB;have fy:Hid (Below w.heap.size w wr):=aa (eI.o.trans (HB.o.mono hsz4));have HWA:=aa (wE d tp tc wr);go_wp2_with fail;clear d0 d1 d2 d3 d4 d5 d6;refine HWA.o.mono ?_;clear HWA;rintro e w7 ⟨v7,rfl,hr7,hb7⟩;have ux:=Zbl fy hb7;have HSE:=aa (Gn (jK nm (pieces g.F9)) (iw d) 2 (.inr (.inr rfl)) _ v7 w7 (HOW.o.below hb7).rd hr7 (LA sY.o RL.o) (sK HDX.o) TcN (by simp[iw]));obtain⟨p7,c7,rfl,_,_,_⟩:=hr7;have hsz7:=ux.o.size;clear hb7;go_wp2_with fail;refine HSE.o.mono ?_;clear HSE;rintro e w8 ⟨v8,x8,rfl,ho8,hn8,hv8,hl8,hb8⟩;have HO8:=aa (ho8.mono hsz7);clear ho8;have HN8:=aa hn8;clear hn8;have O8:=aa hv8;clear hv8;have Ix:=aa (ux.o.trans (hb8.mono hsz7));clear hb8;have hl9:x8.length<=200002:=by simp only[iw,cS,Ox]at hl8;omega
  go_wp2;go_ret2;rw[HRU.o];refine⟨v8,x8,rfl,HO8.o,HN8.o.congr fun n=>?_,O8.o,hl9,Ix.o⟩;rw[<- Jc (fun p hp=>(sY.o p hp).1) n];have hw:=qF HDX.o.1 n;simp only[GN,show ¬(2:Int)=0 by omega,show ¬(2:Int)=1 by omega,fY,eh,fe,hw]
theorem Lg{ok:Nat->Prop}(g:af)(a:bN)(nm:ByteArray)(w:World)(hr:b6 aO 7 ok w [.slice a.dp g.Gb.length a.dc] g.Gb)(hd:g.Gb.length<=1000)(vu:∀D∈g.Gb,0<=D.Gc/\D.Gc<=1000000)
  (hv:b6 aN 6 ok w [.slice a.vp g.F9.length a.vc] g.F9) (mb:g.F9.length<=1000) (ht:qx g.F9) (CH:∀p∈pieces g.F9,0<=p.start/\p.start<=1000000) (hpl:∀p∈pieces g.F9,0<=p.len/\p.len<=1000000) (hpn:(pieces g.F9).length<=100000) :
  Calls prog 41 #[.agg (Tad g a),.string nm] w (iX g.Gb (fun d n=>(0<=n/\n<d.Gc)/\¬Mem (fM nm d.Gc (pieces g.F9)) n) 400006 nm w):=by
 have HR:=aa hr;clear hr;have HV:=aa hv;clear hv;have kj:=aa vu;have Mk:=aa (ae w (.cells (Tad g a) 32));have CN:=aa (b9 w (.cells (Tad g a) 32));have gL:=cr CN.o;go_enter func41,ntmps41
 go_upto_region 1 with(fail);generalize hW1:World.alloc w _=W1 at *;obtain⟨g0,g1,g2,g3,g4,g5,g6,g7,g8⟩:=xr gL;clear gL hW1;have HUS:=aa (GZ (ok:=ok) g a nm W1 ((b6.moves aO.moves).mv (Mv.of Mk.o) HR.o) hd vu ((b6.moves aN.moves).mv (Mv.of Mk.o) HV.o) mb ht CH hpl hpn);clear vu ht CH hpl;go_wp2_with fail;clear g0 g1 g2 g3 g4 g5 g6 g7 g8;refine HUS.o.mono ?_;clear HUS;intro e w2 hu;unfold iX at hu;cases hf:bH g.Gb nm with
 |none =>
  rw[hf]at hu;obtain⟨rfl,hb2⟩:=hu;have HRU:Hid (∀e' w',iX g.Gb (fun d n=>(0<=n/\n<d.Gc)/\¬Mem (fM nm d.Gc (pieces g.F9)) n) 400006 nm w e' w'=(e'=.returned (.tuple #[.slice none 0 0,.int .i64 12])/\Below w.heap.size w w')):=aa fun e' w'=>by unfold iX;rw[hf]
  have cm:=Zbl Mk hb2;clear hf hb2;go_wp2;go_ret2;rw[HRU.o];exact⟨rfl,cm.o⟩
 |some d =>
  rw[hf]at hu;obtain⟨v,x,rfl,OA,UM,I2,vh,hb2⟩:=hu;have HRU:Hid (∀e' w',iX g.Gb (fun d n=>(0<=n/\n<d.Gc)/\¬Mem (fM nm d.Gc (pieces g.F9)) n) 400006 nm w e' w'=(∃v x,e'=.returned (.tuple #[v,.int .i64 0])/\bM w' w.heap.size v x/\iE x (fun n=>(0<=n/\n<d.Gc)/\¬Mem (fM nm d.Gc (pieces g.F9)) n)/\dI x=true/\x.length<=400006/\Below w.heap.size w w')):=aa fun e' w'=>by unfold iX;rw[hf]
  have vu:=kj.o d (eV hf);have HDX:=aa vu;clear vu;have PW:=aa OA;clear OA;have HXN:=aa UM;clear UM;have OW:=aa I2;clear I2;have cm:=Zbl Mk hb2;have pH:=Zbk hb2 CN;obtain⟨px,cx,rfl,_,_,_⟩:=PW.o.rd;clear hb2;have gL:=cr pH.o;obtain⟨g0,g1,g2,g3,g4,g5,g6,g7,g8⟩:=xr gL;clear gL;have HFD:=aa (GK (ok:=ok) g a nm w2 ((b6.moves aO.moves).mv (Mv.of cm.o) HR.o) TcN);go_wp2_with fail;clear g0 g1 g2 g3 g4 g5 g6 g7 g8;refine HFD.o.mono ?_;clear HFD;rintro e w3 ⟨u,k,rfl,Qw,_,hb3⟩;rw[hf]at Qw;clear hf;obtain⟨tv,rfl,ew⟩:=Qw;obtain⟨tp,tc,rfl,_,_⟩:=ew.cap;simp only[Option.getD_some];have hA:=ae w3 (.cells (Tah d tp tc) 39);have sX:=aa (b9 w3 (.cells (Tah d tp tc) 39));have hb4:=hb3.trans (hA.mono hb3.size);have eI:=Zbl cm hb4;have aI3:=aa (PW.o.below hb4);clear hA hb3 hb4 ew PW;go_upto_region 5 with(fail);generalize hW4:World.alloc w3 _=W4 at *;generalize hBd:w3.heap.size=Bd at *;clear hW4;have dL:=cr sX.o;obtain⟨d0,d1,d2,d3,d4,d5,d6⟩:=se dL;clear dL;have HWA:=aa (wE d tp tc W4);go_wp2_with fail;clear d0 d1 d2 d3 d4 d5 d6;refine HWA.o.mono ?_;clear HWA;rintro e w7 ⟨v7,rfl,hr7,hb7⟩;have ux:=Zbl eI hb7;have HSE:=aa (Gn (iw d) x 1 (.inr (.inl rfl)) v7 _ w7 hr7 (aI3.o.below hb7).rd (sK HDX.o) OW.o (by simp[iw]) TcN);obtain⟨p7,c7,rfl,_,_,_⟩:=hr7;have hsz7:=ux.o.size;clear hb7;go_wp2_with fail;refine HSE.o.mono ?_;clear HSE;rintro e w8 ⟨v8,x8,rfl,ho8,hn8,hv8,hl8,hb8⟩;have HO8:=aa (ho8.mono hsz7);clear ho8;have HN8:=aa hn8;clear hn8;have O8:=aa hv8;clear hv8;have Ix:=aa (ux.o.trans (hb8.mono hsz7));clear hb8;have hl9:x8.length<=400006:=by simp only[iw,cS,Ox]at hl8;omega
  go_wp2;go_ret2;rw[HRU.o];refine⟨v8,x8,rfl,HO8.o,HN8.o.congr fun n=>?_,O8.o,hl9,Ix.o⟩;have hw:=qF HDX.o.1 n;have hx:=HXN.o.2 n;simp only[GN,show ¬(1:Int)=0 by omega,fY,ej,eh,tz,fe,hw,Bool.eq_false_iff,ne_eq,hx]
end Go.Proofs.YtillcmhjhajimaaGreatDoor
