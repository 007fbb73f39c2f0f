/- Lemmas. -/
import Derived.Test.YtaagglbgohjldaaGreatDoorQj10
set_option maxRecDepth 100000
set_option maxHeartbeats 32000000
set_option linter.all false
open List renaming getElem?_eq_some_iff→AT,mem_flatMap→BY
open Go.World renaming alloc→AI,frozen?→BT,cell?→AN,setCell→AF
open Go.Value renaming int→Bm,string→Cd
open Go.Region renaming wanted→By,ready→BE
namespace Go.Proofs.YtaagglbgohjldaaGreatDoor
open Go.Proofs.Tryz
open Go.RowKit Go.Maps Go.Shelf
variable {w0 w w':World}{bs Bg Bq:Nat}{g:af}{a:bN}{r:aY}{n:Int}{s:ByteArray}
variable {w0 w w':World}{e:Ending}{g:af}{r:aY}{bs Bg Bq i fuel j m:Nat}{a:bN}{P:Program}{md:Region.Mode}{ops:Array Oper}{Q:Exit->Act->World->Prop}{S:World->Prop}{N:Nat->Bool}{listed:Array Bool}{x:ay}{s:aB}{vs:List ay}{c2 c3 c5 c6 c9 TO W0 RE RK SO Se Sf To Wr ZD UP US ab ao fa dj dq eS fs gE ff fi fb gn iS mx qS qe nF o4 oE oR qk oS pe ph pr pt qv rl rm rn sd sh ta zd zp pN pP qa qn qp qq qr qs r7 r8 r9 ra rg rs rt rv rx sl sn ss sx sC sR sT t0 t3 t4 t5 t6 t9 td tg th tj tn ts tL u1 ke lE im ka lP mT mc me te tf ti tr tt tw u0 vf vj vm we wg wv yW ad am yp an ax b7 b8 ba be bn bo bp br bu bv ca cb cc ce ch ci cl cn co cp cu cv o3 o5 ob oc oe oj ol op oq ou oy oY p4 p5 cy cB d8 da db ds du e6 e8 e9 ea eb ec ed ee ef eg ei el em en eo er et f0 f6 f7 f8 f9 fd fn fr g9 ga gd gk gp gs gv gx he hG hH hI hJ hO hP hU hV hX hY hZ i5 i6 i7 i8 i9 ib ie ii ij ik io ip it j0 j1 j2 j3 j4 j5 j6 j9 jj jn js jt jL k5 k6 k7 k8 k9 p6 pa pb pd pi pm pu pv py pA kb kh kp ks kv kw kx kB l3 l4 l5 l6 l7 l8 l9 la lc ld lf lg li ln lp lr lx m0 m1 m2 m3 m4 m5 m6 m7 m8 m9 mf mj mp ms mt my mz mL n5 n6 n7 n8 n9 na nq nr nu nL:Value}
theorem Ko{ok:Nat->Prop}(g:af)(a:bN)(w:World)(hg:dN ok w g a)(hc:K5 g) :
  Calls prog 36 #[.agg (Tad g a)] w fun e w'=>e=.returned (.tuple #[.string ⟨#[]⟩,.int .i64 0])/\Below w.heap.size w w':=by
 have HC:=aa hc;have CD:g.Gb.length<=1000000:=hc.gi.sz.dl;have mb:g.F9.length<=1000000:=hc.gi.sz.vl;clear hc;have hA1:=ae w (.cells (Tad g a) 31);have ua:=aa (b9 w (.cells (Tad g a) 31));have HG1:=aa (hg.mv (Mv.of hA1));have HW1:=aa hA1;clear hg hA1;go_enter func36,ntmps36
 go_upto_region 1 with(fail);generalize World.alloc w _=W1 at *;generalize hE:w.heap.size=Bg at ua ⊢;clear hE;have gL:=mi ua.o;obtain⟨g0,g1,g2,g3,g4,g5,g6,g7,g8⟩:=xr gL;clear gL;go_wp2_with fail;clear g0 g1 g2 g3 g4 g5 g6 g7 g8;refine(Kj g a W1 HG1.o HC.o.gi.tx).mono ?_;rintro e w2 ⟨rfl,hb2⟩;rw[HC.o.hd];have HX0:=aa hb2;have g6:=mi ((hb2.block _ (aq ua.o)).trans ua.o) 6 _ rfl;clear hb2;go_wp2;clear g6;go_loopw[5] (fun i wr=>∃k:Nat,k<=g.Gb.length/\i=.int .i64 k/\Below W1.heap.size W1 wr) (fun i _=>g.Gb.length-(intOf i).toNat)
 exact⟨0,cg _,rfl,HX0.o⟩;obtain⟨k,hk,rfl,hB⟩:=hrel;have HB:=aa hB;clear hB;have o0:=Zbk HB.o ua;have G1:=aa (HG1.o.mv (Mv.of HB.o));by_cases hlt:k<g.Gb.length
 ·obtain⟨d,hd⟩:=aj g.Gb k hlt;have HCL:=aa (KQ g a k d wr G1.o.Gb HC.o.gi.tx hd (HC.o.dk k d hd) HC.o.ex);exact Tbe
 clear hk;have HX1:=aa HB.o;have g7:=mi o0.o 7 _ rfl;have g6:=mi o0.o 6 _ rfl;clear G1 o0;go_wp2;clear g6 g7 hlt;go_loopw[7] (fun i wr=>∃k:Nat,k<=g.F9.length/\i=.int .i64 k/\Below W1.heap.size W1 wr) (fun i _=>g.F9.length-(intOf i).toNat)
 exact⟨0,cg _,rfl,HX1.o⟩;obtain⟨k,hk,rfl,hB⟩:=hrel;have HB:=aa hB;clear hB;have o0:=Zbk HB.o ua;have G1:=aa (HG1.o.mv (Mv.of HB.o));by_cases hlt:k<g.F9.length
 ·obtain⟨d,hd⟩:=aj g.F9 k hlt;have HCL:=aa (JO g a k d wr G1.o.F9 HC.o.gi.tx hd (HC.o.vo k d hd));exact Tbe
 clear hk;have HX2:=aa HB.o;have g7:=mi o0.o 7 _ rfl;have g6:=mi o0.o 6 _ rfl;clear G1 o0;go_wp2;clear g6 g7 hlt;go_loopw[9] (fun z wr=>∃i:Nat,i<=g.F9.length/\z=.int .i64 i/\Below W1.heap.size W1 wr) (fun z _=>g.F9.length-(intOf z).toNat)
 exact⟨0,cg _,rfl,HX2.o⟩;obtain⟨i,hi,rfl,hB⟩:=hrel;have HB:=aa hB;clear hB;have o0:=Zbk HB.o ua;have G1:=aa (HG1.o.mv (Mv.of HB.o));by_cases hlt:i<g.F9.length
 ·obtain⟨v,hv⟩:=aj g.F9 i hlt;have Zr:=ct hv;have as0:=HC.o.vs v Zr;obtain⟨b,off,us,hsp,_,cX,_,eE,hcv⟩:=HG1.o.F9.elem hv;obtain⟨tv,sv,rfl,ew,fL⟩:=eE;obtain⟨tp,tc,rfl,_,_⟩:=ew.cap;obtain⟨sp,sc,rfl,_,_⟩:=fL.cap;have Ug:=aa hsp;have Zv:=aa fL;have Uz:=aa hcv;have My:Hid (aN ok W1 _ v):=aa ⟨_,_,rfl,ew,fL⟩;clear hsp ew fL hcv;clear hv;have g7:=mi o0.o 7 _ rfl;clear o0 G1;go_wp2;clear g7;go_loopw[10,11] (fun st z wr=>∃j:Nat,j<=v.Gf.length/\z=.int .i64 j/\st=.int .i64 (Cw (v.Gf.take j))/\Below W1.heap.size W1 wr) (fun _ z _=>v.Gf.length-(intOf z).toNat)
  exact⟨0,cg _,rfl,rfl,HB.o⟩;clear HB;obtain⟨j,hj,rfl,rfl,hB⟩:=hrel;have Uu:=aa hB;clear hB;have o0:=Zbk Uu.o ua;have G1:=aa (HG1.o.mv (Mv.of Uu.o));have g7:=mi o0.o 7 _ rfl;rw[Ug.o]at g7;have x5:=(cd (a:=⟨b,off+i*6+5,none⟩) (Uu.o.block b cX)).trans (Uz.o 5 _ rfl);by_cases hlt2:j<v.Gf.length
  ·obtain⟨s,hs⟩:=aj v.Gf j hlt2;have hsm:=ct hs;obtain⟨b3,off3,us3,hsp3,_,PV,_,Tr,hcv3⟩:=Zv.o.elem hs;have XU:=aa Tr;obtain⟨av,st,rfl,mC,hst⟩:=Tr;obtain⟨ap,ac,rfl,_,_⟩:=mC.cap;obtain⟨eN,eR,rfl,_,_⟩:=hst.cap;have YC:=aa (HC.o.sg v Zr j s hs);have QY:=aa (GI hs);have hzz:=HC.o.sz v Zr s hsm;have hl0:=hzz.fm.l0;have hl1:=hzz.fm.l1;have GF:=((HC.o.gi.sz.vz v Zr).seg s hsm);have hsb:=I7 (l:=v.Gf) (fun s hs=>⟨by have:=(HC.o.sz v Zr s hs).fm.l0;omega,(HC.o.sz v Zr s hs).fm.l1⟩) j;subst hsp3;have Tl:=Uu.o.block b3 PV;obtain⟨y0,y1,y2,y3,y4,y5,y6,y7,y8,y9,y10⟩:=ak5 Tl hcv3;clear Tl;generalize hST:Cw (v.Gf.take j)=ST at *;have Fc:=aa (b9 wr (.cells (Tae s ap ac eN eR) 114));have hA:=ae wr (.cells (Tae s ap ac eN eR) 114);replace o0:=Zbk hA o0;replace G1:=aa (G1.o.mv (Mv.of hA));have pL:=Zbl Uu hA;have HVA:=aa (bC.moves.mv (Mv.of pL.o) XU.o);clear hA hcv3 mC hst hzz hs hST
   go_upto_region 24 with(fail);clear y0 y1 y2 y3 y4 y5 y6 y7 y8 y9 y10 g7 x5;generalize World.alloc wr _=W5 at *;generalize wr.heap.size=Bx at Fc ⊢;have sL:=mi Fc.o;obtain⟨s0,s1,s2,s3,s4,s5,s6,s7,s8,s9,s10⟩:=IC sL;clear sL;have gL:=mi o0.o;obtain⟨g0,g1,g2,g3,g4,g5,g6,g7,g8⟩:=xr gL;clear gL;go_wp2_with fail;clear g0 g1 g2 g3 g4 g5 g6 g7 g8 s0 s1 s2 s3 s4 s5 s6 s7 s8 s9 s10;refine(KU g a s _ ST W5 HVA.o YC.o.1 HC.o.ex GF.1 GF.2).mono ?_;rintro e w6 ⟨rfl,hb6⟩;replace o0:=Zbk hb6 o0;replace Fc:=Zbk hb6 Fc;have Tq:=Zbl pL hb6;clear hb6 HVA pL G1;go_upto_region 26 with(fail);have g7:=aG (aq o0.o) (mi o0.o 7 _ rfl);rw[Ug.o]at g7;have x5:=aG (cC cX Tq.o.size) ((cd (a:=⟨b,off+i*6+5,none⟩) (Tq.o.block b cX)).trans (Uz.o 5 _ rfl));have s2:=aG (aq Fc.o) (mi Fc.o 2 _ rfl);have aw6:=Fc;clear o0 Fc;by_cases hm:1<v.Gf.length
   ·have d1:decide ((1:Int)<(v.Gf.length:Int))=true:=eA Tc1;have d1':decide (1<v.Gf.length)=true:=eA hm;have HSI:=aa fun q:fo=>Kg s.kind (ext w6 q) YC.o.1 (YC.o.2 hm)
    (refine wp_region_quiet_lit ?_;(repeat(go_big_quiet_step ((go_at_call 77;exact iH (HSI.o _)))));(with_reducible refine fR ?_);intro wq ia;have kq:=dY ia;clear ia)
    clear d1 d1' HSI g7 x5 s2;exact Tbo
   have d1:decide ((1:Int)<(v.Gf.length:Int))=false:=cN Tc1;have d1':decide (1<v.Gf.length)=false:=cN hm;(refine wp_region_quiet_lit ?_;(repeat(go_big_quiet_step (fail)));(with_reducible refine fR ?_);intro wq ia;have kq:=dY ia;clear ia)
   clear d1 d1' g7 x5 s2;exact Tbo
  exact TbZ
 clear hi;have Ul:=aa HB.o;have g7:=mi o0.o 7 _ rfl;have g6:=mi o0.o 6 _ rfl;clear G1 o0;go_wp2;clear g6 g7 hlt;go_loopw[13] (fun z wr=>∃i:Nat,i<=g.F9.length/\z=.int .i64 i/\Below W1.heap.size W1 wr) (fun z _=>g.F9.length-(intOf z).toNat)
 exact⟨0,cg _,rfl,Ul.o⟩;obtain⟨i,hi,rfl,hB⟩:=hrel;have HB:=aa hB;clear hB;have o0:=Zbk HB.o ua;have G1:=aa (HG1.o.mv (Mv.of HB.o));by_cases hlt:i<g.F9.length
 ·obtain⟨v,hv⟩:=aj g.F9 i hlt;have Zr:=ct hv;have as0:=HC.o.vs v Zr;obtain⟨b,off,us,hsp,_,cX,_,eE,hcv⟩:=HG1.o.F9.elem hv;obtain⟨tv,sv,rfl,ew,fL⟩:=eE;obtain⟨tp,tc,rfl,_,_⟩:=ew.cap;obtain⟨sp,sc,rfl,_,_⟩:=fL.cap;have Ug:=aa hsp;have Zv:=aa fL;have Uz:=aa hcv;have My:Hid (aN ok W1 _ v):=aa ⟨_,_,rfl,ew,fL⟩;clear hsp ew fL hcv;have hv0:=hv;clear hv;have g7:=mi o0.o 7 _ rfl;clear o0 G1;go_wp2;clear g7;go_loopw[14] (fun z wr=>∃j:Nat,j<=v.Gf.length/\z=.int .i64 j/\Below W1.heap.size W1 wr) (fun z _=>v.Gf.length-(intOf z).toNat)
  exact⟨0,cg _,rfl,HB.o⟩;clear HB;obtain⟨j,hj,rfl,hB⟩:=hrel;have Uu:=aa hB;clear hB;have o0:=Zbk Uu.o ua;have G1:=aa (HG1.o.mv (Mv.of Uu.o));have g7:=mi o0.o 7 _ rfl;rw[Ug.o]at g7;have x5:=(cd (a:=⟨b,off+i*6+5,none⟩) (Uu.o.block b cX)).trans (Uz.o 5 _ rfl);by_cases hlt2:j<v.Gf.length
  ·obtain⟨s,hs⟩:=aj v.Gf j hlt2;have hsm:=ct hs;obtain⟨b3,off3,us3,hsp3,_,PV,_,Tr,hcv3⟩:=Zv.o.elem hs;have XU:=aa Tr;obtain⟨av,st,rfl,mC,hst⟩:=Tr;obtain⟨ap,ac,rfl,_,_⟩:=mC.cap;obtain⟨eN,eR,rfl,_,_⟩:=hst.cap;obtain⟨r1,r2,r3,r4,r5⟩:=zZ (HC.o.re v Zr s hsm);have XO:=aa r1;have E3:=aa r2;have HR3:=aa r3;have WD:=aa r4;have HR5:=aa r5;have Uy:=aa (JH (HC.o.sg v Zr j s hs).1);have hzz:=HC.o.sz v Zr s hsm;have hl0:=hzz.fm.l0;have hl1:=hzz.fm.l1;have GF:=((HC.o.gi.sz.vz v Zr).seg s hsm).1;have hns:v.name.size<=1000000000:=by have:=za (Hz (HC.o.vo i v hv0)).1;omega
   subst hsp3;have Tl:=Uu.o.block b3 PV;obtain⟨y0,y1,y2,y3,y4,y5,y6,y7,y8,y9,y10⟩:=ak5 Tl hcv3;clear Tl;have cT:=Uu.o.block b cX;have av8:=Uz.o;obtain⟨x0,x1,x2,x3,x4,x5⟩:=sw6 cT av8;clear cT av8;have aC5:=cC cX Uu.o.size;have ai6:=cC PV Uu.o.size;have ao7:=XU;clear hcv3 mC hst hzz hs r1 r2 r3 r4 r5;go_upto_region 35 with(fail);refine Jo _ wr Bg b off i g.F9.length a.vc v tp tc b3 off3 j sc s ap eN ac eR ⟨g7,x0,x1,x2,x3,x4,x5,y0,y1,y2,y3,y4,y5,y6,y7,y8,y9,y10⟩ (by
    intro q hq;simp only[dr,cY,dg]at hq;rcases hq with rfl|rfl|rfl
    ·exact aq o0.o
    ·exact aC5
    exact ai6) hlt hlt2 (aa ?_) (fun _ _ _ _ _ h=>h)
   intro b1 b2 W5 u149 u150 u151 u152 u153 u154 u155 u156 u157 u158 u159 u160 u161 u162 hbW hk1 hk2;clear y0 y1 y2 y3 y4 y5 y6 y7 y8 y9 y10 x0 x1 x2 x3 x4 x5 g7;replace o0:=Zbk hbW o0;replace G1:=aa (G1.o.mv (Mv.of hbW));have pL:=Zbl Uu hbW;have HVA:=aa (bC.moves.mv (Mv.of pL.o) XU.o);have Wx:=aa (aN.moves.mv (Mv.of pL.o) My.o);have XR:=aa hk1;have UN:=aa hk2;clear hbW hk1 hk2 Uu;have gL:=mi o0.o;obtain⟨g0,g1,g2,g3,g4,g5,g6,g7,g8⟩:=xr gL;clear gL;have sL:=mi UN.o;obtain⟨s0,s1,s2,s3,s4,s5,s6,s7,s8,s9,s10⟩:=IC sL;clear sL;go_wp2_with fail;clear g0 g1 g2 g3 g4 g5 g6 g7 g8 s0 s1 s2 s3 s4 s5 s6 s7 s8 s9 s10;refine(JM g a s _ W5 HVA.o G1.o HC.o.gi.sz GF XO.o).mono ?_;rintro e W6 ⟨rfl,hb⟩;replace o0:=Zbk hb o0;replace UN:=Zbk hb UN;replace XR:=Zbk hb XR;replace G1:=aa (G1.o.mv (Mv.of hb));replace HVA:=aa (bC.moves.mv (Mv.of hb) HVA.o);replace Wx:=aa (aN.moves.mv (Mv.of hb) Wx.o);replace pL:=Zbl pL hb;clear hb;have gL:=mi o0.o;obtain⟨g0,g1,g2,g3,g4,g5,g6,g7,g8⟩:=xr gL;clear gL;have sL:=mi UN.o;obtain⟨s0,s1,s2,s3,s4,s5,s6,s7,s8,s9,s10⟩:=IC sL;clear sL;go_wp2_with fail;clear g0 g1 g2 g3 g4 g5 g6 g7 g8 s0 s1 s2 s3 s4 s5 s6 s7 s8 s9 s10;refine(JW g a s _ W6 HVA.o G1.o HC.o.gi.sz GF ⟨Tc1,Tc1⟩ (fun d hd=>by have:=HC.o.pf.de d hd;omega) E3.o).mono ?_;rintro e W7 ⟨rfl,hb⟩;replace o0:=Zbk hb o0;replace UN:=Zbk hb UN;replace XR:=Zbk hb XR;replace G1:=aa (G1.o.mv (Mv.of hb));replace HVA:=aa (bC.moves.mv (Mv.of hb) HVA.o);replace Wx:=aa (aN.moves.mv (Mv.of hb) Wx.o);replace pL:=Zbl pL hb;clear hb;have sL:=mi UN.o;obtain⟨s0,s1,s2,s3,s4,s5,s6,s7,s8,s9,s10⟩:=IC sL;clear sL;have xL:=mi XR.o;obtain⟨x0,x1,x2,x3,x4,x5⟩:=sv6 xL;clear xL;go_wp2_with fail;clear s0 s1 s2 s3 s4 s5 s6 s7 s8 s9 s10 x0 x1 x2 x3 x4 x5;refine(Ki v s _ _ W7 Wx.o HVA.o GF hns Uy.o.1 Uy.o.2.1 Uy.o.2.2 HR3.o).mono ?_;rintro e W8 ⟨rfl,hb⟩;replace o0:=Zbk hb o0;replace UN:=Zbk hb UN;replace XR:=Zbk hb XR;replace G1:=aa (G1.o.mv (Mv.of hb));replace HVA:=aa (bC.moves.mv (Mv.of hb) HVA.o);replace Wx:=aa (aN.moves.mv (Mv.of hb) Wx.o);replace pL:=Zbl pL hb;clear hb;have gL:=mi o0.o;obtain⟨g0,g1,g2,g3,g4,g5,g6,g7,g8⟩:=xr gL;clear gL;have sL:=mi UN.o;obtain⟨s0,s1,s2,s3,s4,s5,s6,s7,s8,s9,s10⟩:=IC sL;clear sL;go_wp2_with fail;clear g0 g1 g2 g3 g4 g5 g6 g7 g8 s0 s1 s2 s3 s4 s5 s6 s7 s8 s9 s10;refine(Kh g a s _ W8 HVA.o G1.o HC.o.gi.sz GF WD.o HR5.o).mono ?_;rintro e W9 ⟨rfl,hb⟩;replace o0:=Zbk hb o0;replace UN:=Zbk hb UN;replace XR:=Zbk hb XR;replace G1:=aa (G1.o.mv (Mv.of hb));replace HVA:=aa (bC.moves.mv (Mv.of hb) HVA.o);replace Wx:=aa (aN.moves.mv (Mv.of hb) Wx.o);replace pL:=Zbl pL hb;clear hb;clear o0 G1 HVA Wx XR UN;go_wp2;go_roundw;exact⟨j+1,Tc1,Tc5,pL.o⟩;simp[intOf];omega
  exact TbZ
 clear hi;have Wj:=aa HB.o;have g7:=mi o0.o 7 _ rfl;have g6:=mi o0.o 6 _ rfl;clear G1 o0;go_wp2;clear g6 g7 hlt;go_loopw[17] (fun z wr=>∃i:Nat,i<=g.F9.length/\z=.int .i64 i/\Below W1.heap.size W1 wr) (fun z _=>g.F9.length-(intOf z).toNat)
 exact⟨0,cg _,rfl,Wj.o⟩;obtain⟨i,hi,rfl,hB⟩:=hrel;have HB:=aa hB;clear hB;have o0:=Zbk HB.o ua;have G1:=aa (HG1.o.mv (Mv.of HB.o));by_cases hlt:i<g.F9.length
 ·obtain⟨v,hv⟩:=aj g.F9 i hlt;have Zr:=ct hv;have as0:=HC.o.vs v Zr;obtain⟨b,off,us,hsp,_,cX,_,eE,hcv⟩:=HG1.o.F9.elem hv;obtain⟨tv,sv,rfl,ew,fL⟩:=eE;obtain⟨tp,tc,rfl,_,_⟩:=ew.cap;obtain⟨sp,sc,rfl,_,_⟩:=fL.cap;have Ug:=aa hsp;have Zv:=aa fL;have Uz:=aa hcv;have My:Hid (aN ok W1 _ v):=aa ⟨_,_,rfl,ew,fL⟩;clear hsp ew fL hcv;clear hv;have g7:=mi o0.o 7 _ rfl;clear o0 G1;go_wp2;clear g7;go_loopw[18] (fun z wr=>∃j:Nat,j<=v.Gf.length/\z=.int .i64 j/\Below W1.heap.size W1 wr) (fun z _=>v.Gf.length-(intOf z).toNat)
  exact⟨0,cg _,rfl,HB.o⟩;clear HB;obtain⟨j,hj,rfl,hB⟩:=hrel;have Uu:=aa hB;clear hB;have o0:=Zbk Uu.o ua;have G1:=aa (HG1.o.mv (Mv.of Uu.o));have g7:=mi o0.o 7 _ rfl;rw[Ug.o]at g7;have x5:=(cd (a:=⟨b,off+i*6+5,none⟩) (Uu.o.block b cX)).trans (Uz.o 5 _ rfl);by_cases hlt2:j<v.Gf.length
  ·obtain⟨s,hs⟩:=aj v.Gf j hlt2;have hsm:=ct hs;obtain⟨b3,off3,us3,hsp3,_,PV,_,Tr,hcv3⟩:=Zv.o.elem hs;have XU:=aa Tr;obtain⟨av,st,rfl,mC,hst⟩:=Tr;obtain⟨ap,ac,rfl,_,_⟩:=mC.cap;obtain⟨eN,eR,rfl,_,_⟩:=hst.cap;subst hsp3;have Tl:=Uu.o.block b3 PV;obtain⟨y0,y1,y2,y3,y4,y5,y6,y7,y8,y9,y10⟩:=ak5 Tl hcv3;clear Tl;have ai6:=cC PV Uu.o.size;have HZQ:=aa fun q:fo=>Kk g a s _ (ext wr q) (bC.moves.mv (Mv.of (Uu.o.trans ((dQ wr q).mono Uu.o.size))) XU.o) (G1.o.mv (Mv.of (dQ wr q))) HC.o.gi.sz HC.o.lb HC.o.ex (HC.o.sz v Zr s hsm) (HC.o.si v Zr s hsm);clear hcv3 mC hst hs
   go_upto_region 50 with(fail);clear g7 x5;obtain⟨g0,g1,g2,g3,g4,g5,g6,g7,g8⟩:=Hr o0.o;rw[Ug.o]at g7 HZQ;have x5:=aG (cC cX Uu.o.size) ((cd (a:=⟨b,off+i*6+5,none⟩) (Uu.o.block b cX)).trans (Uz.o 5 _ rfl));replace y0:=aG ai6 y0;replace y1:=aG ai6 y1;replace y2:=aG ai6 y2;replace y3:=aG ai6 y3;replace y4:=aG ai6 y4;replace y5:=aG ai6 y5;replace y6:=aG ai6 y6;replace y7:=aG ai6 y7;replace y8:=aG ai6 y8;replace y9:=aG ai6 y9;replace y10:=aG ai6 y10;clear o0 G1;(refine aU Tc3 Tc3 ?_;(repeat(go_big_quiet_step ((go_at_call 82;exact iH (HZQ.o _)))));(with_reducible refine fR ?_);intro wq ia;have kq:=dY ia;clear ia)
   have C1:=Zbl Uu kq;clear kq g0 g1 g2 g3 g4 g5 g6 g7 g8 x5 y0 y1 y2 y3 y4 y5 y6 y7 y8 y9 y10 HZQ Uu;exact Tch
  exact TbZ
 clear hi;have gL:=mi o0.o;obtain⟨g0,g1,g2,g3,g4,g5,g6,g7,g8⟩:=xr gL;clear gL;go_wp2_with fail;clear g0 g1 g2 g3 g4 g5 g6 g7 g8 hlt;refine(JD g a wr G1.o.F9 (by have:=HC.o.pf.vl;omega) HC.o.pf.tm (by have:=HC.o.pf.pn;omega) HC.o.row HC.o.pos).mono ?_;rintro e w7 ⟨rfl,hb7⟩;have MT:=Zbl HB hb7;have g7:=mi ((hb7.block _ (aq o0.o)).trans o0.o) 7 _ rfl;clear hb7 o0 G1 HB;go_wp2;clear g7;go_loopw[21] (fun z wr=>∃i:Nat,i<=g.F9.length/\z=.int .i64 i/\Below W1.heap.size W1 wr) (fun z _=>g.F9.length-(intOf z).toNat)
 exact⟨0,cg _,rfl,MT.o⟩;obtain⟨i,hi,rfl,hB⟩:=hrel;have HB:=aa hB;clear hB;have o0:=Zbk HB.o ua;have G1:=aa (HG1.o.mv (Mv.of HB.o));by_cases hlt:i<g.F9.length
 ·obtain⟨v,hv⟩:=aj g.F9 i hlt;have Zr:=ct hv;have as0:=HC.o.vs v Zr;obtain⟨b,off,us,hsp,_,cX,_,eE,hcv⟩:=HG1.o.F9.elem hv;obtain⟨tv,sv,rfl,ew,fL⟩:=eE;obtain⟨tp,tc,rfl,_,_⟩:=ew.cap;obtain⟨sp,sc,rfl,_,_⟩:=fL.cap;have Ug:=aa hsp;have Zv:=aa fL;have Uz:=aa hcv;have My:Hid (aN ok W1 _ v):=aa ⟨_,_,rfl,ew,fL⟩;clear hsp ew fL hcv;have hv0:=hv;clear hv;have g7:=mi o0.o 7 _ rfl;clear o0 G1;go_wp2;clear g7;go_loopw[22] (fun z wr=>∃j:Nat,j<=i/\z=.int .i64 j/\Below W1.heap.size W1 wr) (fun z _=>i-(intOf z).toNat)
  exact⟨0,cg _,rfl,HB.o⟩;clear HB;obtain⟨j,hj,rfl,hB⟩:=hrel;have Uu:=aa hB;clear hB;by_cases hlt2:j<i
  ·obtain⟨x,hx⟩:=aj g.F9 j Tc1;have o0:=Zbk Uu.o ua;have g7:=mi o0.o 7 _ rfl;rw[Ug.o]at g7;have Wd:=ct hx;have Xq:=aa fun s t=>HC.o.thin i j v x s t hlt2 hv0 hx;obtain⟨bx,aD4,usx,ax6,_,aD5,_,aA3,aA4⟩:=HG1.o.F9.elem hx;rw[Ug.o]at ax6;simp only[Option.some.injEq,Addr.mk.injEq,and_true]at ax6;obtain⟨rfl,rfl⟩:=ax6;have OB:=aa aA3;obtain⟨tvx,svx,rfl,aA5,ax7⟩:=aA3;obtain⟨tpx,tcx,rfl,_,_⟩:=aA5.cap;obtain⟨spx,scx,rfl,_,_⟩:=ax7.cap;have aC6:=aa ax7;have hkv:v.Gf.length<=1000000000:=by omega
   have hkx:x.Gf.length<=1000000000:=by have:=HC.o.vs x Wd;omega
   have cT:=Uu.o.block b cX;have av8:=Uz.o;obtain⟨y0,y1,y2,y3,y4,y5⟩:=sw6 cT av8;obtain⟨z0,z1,z2,z3,z4,z5⟩:=sw6 cT aA4;clear cT av8;have hbl:=cC cX Uu.o.size;have hjn:j<g.F9.length:=by omega
   clear aA4 aA5 ax7 hx;go_upto_region 61 with(fail);refine Ju _ wr Bg b off i g.F9.length a.vc v tp tc sp sc j x tpx spx tcx scx ⟨g7,y0,y1,y2,y3,y4,y5,z0,z1,z2,z3,z4,z5⟩ (by
    intro q hq;simp only[dr,cY,dg]at hq;rcases hq with rfl|rfl
    ·exact aq o0.o
    exact hbl) hlt hjn (aa ?_) (fun _ _ _ _ _ h=>h)
   intro b1 b2 W5 u246 u247 u248 u249 u250 u251 u252 u253 u254 u255 hbW hk1 hk2;clear y0 y1 y2 y3 y4 y5 z0 z1 z2 z3 z4 z5 g7;have pL:=Zbl Uu hbW;have HKV:=aa fun q:fo=>aN.moves.mv (Mv.of (pL.o.trans ((dQ W5 q).mono pL.o.size))) My.o;have HKX:=aa fun q:fo=>aN.moves.mv (Mv.of (pL.o.trans ((dQ W5 q).mono pL.o.size))) OB.o;obtain⟨y0,y1,y2,y3,y4,y5⟩:=I6 hk1;obtain⟨z0,z1,z2,z3,z4,z5⟩:=I6 hk2;clear hbW hk1 hk2 Uu o0
   go_upto_region 62 with(fail);by_cases k1:eZ v=6
   ·have e1:(eZ v==6)=true:=by rw[k1];rfl
    by_cases k2:eZ x=6
    ·have e2:(eZ x==6)=true:=by rw[k2];rfl
     obtain⟨s,hs1,hs2⟩:=Ja k1;obtain⟨t,ht1,ht2⟩:=Ja k2;have hth:=Xq.o s t hs1 ht1 hs2 ht2;have hs0:v.Gf[0]?=some s:=by rw[hs1];rfl
     have ht0:x.Gf[0]?=some t:=by rw[ht1];rfl
     have mb:0<v.Gf.length:=by rw[hs1];exact Nat.succ_pos _
     have vh:0<x.Gf.length:=by rw[ht1];exact Nat.succ_pos _
     obtain⟨bs,os,uss,aA6,_,aA7,_,aC7,ax8⟩:=Zv.o.elem hs0;obtain⟨_,_,rfl,_,_⟩:=aC7;obtain⟨bt,ot,ust,aA8,_,aA9,_,aC8,ax9⟩:=aC6.o.elem ht0;obtain⟨_,_,rfl,_,_⟩:=aC8;have CH:∀m z,W1.cell? ⟨bs,os+m,none⟩=some z->∀q,(ext W5 q).cell? ⟨bs,os+m,none⟩=some z:=fun m z h=>aG (cC aA7 pL.o.size) ((pL.o.cell (p:=⟨bs,os+m,none⟩) aA7).trans h);have YL:∀m z,W1.cell? ⟨bt,ot+m,none⟩=some z->∀q,(ext W5 q).cell? ⟨bt,ot+m,none⟩=some z:=fun m z h=>aG (cC aA9 pL.o.size) ((pL.o.cell (p:=⟨bt,ot+m,none⟩) aA9).trans h);have p7:=CH 7 _ (by have:=ax8 7 _ rfl;rwa[Nat.zero_mul,fg]at this);have p8:=CH 8 _ (by have:=ax8 8 _ rfl;rwa[Nat.zero_mul,fg]at this);have t7:=YL 7 _ (by have:=ax9 7 _ rfl;rwa[Nat.zero_mul,fg]at this);have t8:=YL 8 _ (by have:=ax9 8 _ rfl;rwa[Nat.zero_mul,fg]at this);rw[aA6]at y5 HKV;rw[aA8]at z5 HKX;clear ax8 ax9 CH YL hs0 ht0 hs1 ht1 hs2 ht2 k1 k2 aA6 aA8
     by_cases Un:s.pool=t.pool
     ·have hdd:(s.device==t.device)=false:=beq_eq_false_iff_ne.2 (hth.resolve_left fun q=>q Un);rw[Un]at p7;clear hth Un;(refine aU Tc3 Tc3 ?_;(repeat(go_big_quiet_step ((go_at_call 84;first|exact iH (pq _ _ _ (HKV.o _) hkv)|exact iH (pq _ _ _ (HKX.o _) hkx)))));(with_reducible refine fR ?_);intro wq ia;have kq:=dY ia;clear ia)
      have C1:=Zbl pL kq;clear kq y0 z0 y1 z1 y2 z2 y3 z3 y4 z4 y5 z5 e1 e2 p7 p8 t7 t8 hdd;exact Tch
     have Mu:=jI Un;clear hth Un;(refine aU Tc3 Tc3 ?_;(repeat(go_big_quiet_step ((go_at_call 84;first|exact iH (pq _ _ _ (HKV.o _) hkv)|exact iH (pq _ _ _ (HKX.o _) hkx)))));(with_reducible refine fR ?_);intro wq ia;have kq:=dY ia;clear ia)
     have C1:=Zbl pL kq;clear kq y0 z0 y1 z1 y2 z2 y3 z3 y4 z4 y5 z5 e1 e2 p7 p8 t7 t8 Mu;exact Tch
    have e2:(eZ x==6)=false:=beq_eq_false_iff_ne.2 k2;clear k1 k2;(refine aU Tc3 Tc3 ?_;(repeat(go_big_quiet_step ((go_at_call 84;first|exact iH (pq _ _ _ (HKV.o _) hkv)|exact iH (pq _ _ _ (HKX.o _) hkx)))));(with_reducible refine fR ?_);intro wq ia;have kq:=dY ia;clear ia)
    have C1:=Zbl pL kq;clear kq y0 z0 y1 z1 y2 z2 y3 z3 y4 z4 y5 z5 e1 e2;exact Tch
   have e1:(eZ v==6)=false:=beq_eq_false_iff_ne.2 k1;clear k1;(refine aU Tc3 Tc3 ?_;(repeat(go_big_quiet_step ((go_at_call 84;first|exact iH (pq _ _ _ (HKV.o _) hkv)|exact iH (pq _ _ _ (HKX.o _) hkx)))));(with_reducible refine fR ?_);intro wq ia;have kq:=dY ia;clear ia)
   have C1:=Zbl pL kq;clear kq y0 z0 y1 z1 y2 z2 y3 z3 y4 z4 y5 z5 e1;exact Tch
  exact TcU
 clear hi;have HX9:=aa HB.o;have g7:=mi o0.o 7 _ rfl;have g6:=mi o0.o 6 _ rfl;clear G1 o0;go_wp2;clear g6 g7 hlt;go_loopw[25] (fun i wr=>∃k:Nat,k<=g.F9.length/\i=.int .i64 k/\Below W1.heap.size W1 wr) (fun i _=>g.F9.length-(intOf i).toNat)
 exact⟨0,cg _,rfl,HX9.o⟩;obtain⟨k,hk,rfl,hB⟩:=hrel;have HB:=aa hB;clear hB;have o0:=Zbk HB.o ua;have G1:=aa (HG1.o.mv (Mv.of HB.o));by_cases hlt:k<g.F9.length
 ·obtain⟨d,hd⟩:=aj g.F9 k hlt;have HCL:=aa (Kr g a k d wr G1.o.F9 (by have:=HC.o.pf.vl;omega) HC.o.gi.sz.vz HC.o.ul hd (HC.o.us d (ct hd)).1 (HC.o.us d (ct hd)).2);exact Tbe
 clear hk;have g7:=mi o0.o 7 _ rfl;have TF:=Zbl HW1 HB.o;clear o0 G1;go_wp2;go_ret2;exact⟨rfl,TF.o⟩
def Gy :Dr r=false↔¬((1<=r.Gi/\r.Gi<=6)/\(1<=r.Gh/\r.Gh<=6)/\r.Gi*r.Gh<=6/\(1<=r.Gc/\r.Gc<=4096)):=by
 rw[<- Bool.not_eq_true];refine not_congr ?_;unfold Dr Ek;simp only[eh,fk];exact⟨fun⟨⟨⟨h1,h2⟩,h3⟩,h4⟩=>⟨h1,h2,h3,h4⟩,fun⟨h1,h2,h3,h4⟩=>⟨⟨⟨h1,h2⟩,h3⟩,h4⟩⟩
def JG :Ek r.Gg 5=false↔¬(1<=r.Gg/\r.Gg<=5):=by
 rw[<- Bool.not_eq_true];refine not_congr ?_;unfold Ek;simp only[eh,fk]
def GJ(s:ByteArray)(w:World)(hs:s.size<=9223372036854775807):Calls prog 38 #[.string s] w fun e w'=>e=.returned (.bool (mr s))/\Below w.1.size w w' :=
 (Jz s w hs).mono fun _ _ ⟨h,e⟩=>⟨h,e ▸ bj _ _⟩
def TcG{p:Prop}(h:p:=by
 go_wp2;go_ret;exact⟨cz HE.o.symm,cm.o⟩):p:=h
def Tdw{p:Prop}(h:p:=by rw[Gy];omega):p:=h
def Jt{ok:Nat->Prop}(g:af)(a:bN)(r:aY)(w:World)(hg:dN ok w g a)(hc:K5 g)(hr:dK r) :
  Calls prog 10 #[.agg (Tad g a),.agg (Tal r)] w fun e w'=>e=.returned (.int .i64 (yZ g r))/\Below w.1.size w w':=by
 have Zu:Hid (r.tag.size<=9223372036854775807/\r.sep.size<=9223372036854775807):=aa ⟨hr.t,hr.q⟩;have HC:=aa hc;have HE:Hid (yZ g r=_):=aa (yZ.eq_1 g r);have mb:g.F9.length<=1000000:=hc.gi.sz.vl;have hA1:=ae w (.cells (Tad g a) 31);have hA2:=ae (w.alloc (.cells (Tad g a) 31)) (.cells (Tal r) 34);have RW:=b9 w (.cells (Tad g a) 31);have C1:=aa (b9 (w.alloc (.cells (Tad g a) 31)) (.cells (Tal r) 34));have rB:=aa ((hA2.block _ (aq RW)).trans RW);have HB:=aa (hA1.trans (hA2.mono hA1.size));have a9:=aa (hg.mv (Mv.of HB.o));clear hA1 hA2 RW hg hc hr;rw[cW]at C1;go_enter func10,ntmps10
 go_upto_region 1 with(fail);generalize AI (AI w _) _=W1 at *;generalize aj:w.1.size+1=Bq at C1 ⊢;generalize ak:w.1.size=Bg at rB ⊢;clear aj ak;have gL:=mi rB.o;obtain⟨g0,g1,g2,g3,g4,g5,g6,g7,g8⟩:=xr gL;clear gL;go_wp2_with fail;clear g0 g1 g2 g3 g4 g5 g6 g7 g8;refine(Ko g a W1 a9.o HC.o).mono ?_;rintro e w2 ⟨rfl,hb2⟩;have ah:=Zbk hb2 rB;have ab:=Zbk hb2 C1;have ai:=aa (a9.o.mv (Mv.of hb2));have cm:=Zbl HB hb2;clear hb2 rB C1 a9 HB;have qL:=mi ab.o;obtain⟨q0,q1,q2,q3,q4,q5,q6⟩:=se qL;clear qL;by_cases c1:r.Gi<1
 ·replace HE:=aa (HE.o.trans (aw Tdw));have d1:decide (r.Gi<1)=true:=eA c1;exact TcG
 have d1:decide (r.Gi<1)=false:=cN c1;by_cases c2:6<r.Gi
 ·replace HE:=aa (HE.o.trans (aw Tdw));have d2:decide (6<r.Gi)=true:=eA c2;exact TcG
 have d2:decide (6<r.Gi)=false:=cN c2;by_cases c3:r.Gh<1
 ·replace HE:=aa (HE.o.trans (aw Tdw));have d3:decide (r.Gh<1)=true:=eA c3;exact TcG
 have d3:decide (r.Gh<1)=false:=cN c3;by_cases c4:6<r.Gh
 ·replace HE:=aa (HE.o.trans (aw Tdw));have d4:decide (6<r.Gh)=true:=eA c4;exact TcG
 have d4:decide (6<r.Gh)=false:=cN c4;have am:0<=r.Gi*r.Gh:=oA Tc1 Tc1;have ao:r.Gi*r.Gh<=6*6:=tW Tc1 Tc1 Tc1 Tc1;have au:IntKind.i64.wrap (r.Gi*r.Gh)=r.Gi*r.Gh:=dy _ Tc1;by_cases c5:6<r.Gi*r.Gh
 ·replace HE:=aa (HE.o.trans (aw Tdw));have d5:decide (6<r.Gi*r.Gh)=true:=eA c5;exact TcG
 have d5:decide (6<r.Gi*r.Gh)=false:=cN c5;by_cases c6:r.Gc<1
 ·replace HE:=aa (HE.o.trans (aw Tdw));have d6:decide (r.Gc<1)=true:=eA c6;exact TcG
 have d6:decide (r.Gc<1)=false:=cN c6;by_cases c7:4096<r.Gc
 ·replace HE:=aa (HE.o.trans (aw Tdw));have d7:decide (4096<r.Gc)=true:=eA c7;exact TcG
 have d7:decide (4096<r.Gc)=false:=cN c7;replace HE:=aa (HE.o.trans (bh Tdw));go_upto_region 6 with(fail);clear d1 d2 d3 d4 d5 d6 d7 c1 c2 c3 c4 c5 c6 c7 am ao au q0 q1 q2;by_cases p1:r.Gg<1
 ·replace HE:=aa (HE.o.trans (aw (by rw[JG];omega)));have d1:decide (r.Gg<1)=true:=eA p1;exact TcG
 have d1:decide (r.Gg<1)=false:=cN p1;by_cases p2:5<r.Gg
 ·replace HE:=aa (HE.o.trans (aw (by rw[JG];omega)));have d2:decide (5<r.Gg)=true:=eA p2;exact TcG
 have d2:decide (5<r.Gg)=false:=cN p2;replace HE:=aa (HE.o.trans (bh (by rw[JG];omega)));go_upto_region 8 with(fail);clear d1 d2 p1 p2;have gL:=mi ah.o;obtain⟨g0,g1,g2,g3,g4,g5,g6,g7,g8⟩:=xr gL;clear gL;go_wp2_with fail;clear g0 g1 g2 g3 g4 g5 g6 g7 g8 q3 q4 q5 q6;refine(aj7 g a r.near w2 ai.o.F9 mb).mono ?_;rintro e w3 ⟨u,kk,rfl,hv,OU,hb3⟩;generalize (aM g.F9 r.near).getD eY=x at *;obtain⟨tv,sv,rfl,ew,fL⟩:=hv;obtain⟨tp,tc,rfl,_,_⟩:=ew.cap;obtain⟨sp,sc,rfl,_,_⟩:=fL.cap;have hA:=ae w3 (.cells (Tah x tp tc sp sc) 68);have G2:=hb3.trans (hA.mono hb3.size);have a5:=Zbk G2 ab;have eI:=Zbl cm G2;replace OU:=aa OU;clear ew fL hA G2 hb3 ah ai ab cm;go_upto_region 9 with(fail);generalize AI w3 _=W4 at *;have qL:=mi a5.o;have q3:=qL 3 _ rfl;have q5:=qL 5 _ rfl;clear qL;have HNB:Hid (xM g r=_):=aa (xM.eq_1 g r);cases hn:r.near.toList.isEmpty with
 |true =>
  rw[hn,aw rfl]at HNB;by_cases k2:r.Gg=2
  ·have e2:(r.Gg==2)=true:=by rw[k2];rfl
   replace HE:=aa (HE.o.trans (aw (by rw[HNB.o,OC,e2];rfl)));go_wp2;go_ret;exact⟨cz HE.o.symm,eI.o⟩
  have e2:(r.Gg==2)=false:=beq_eq_false_iff_ne.2 k2;by_cases k3:r.Gg=3
  ·have e3:(r.Gg==3)=true:=by rw[k3];rfl
   replace HE:=aa (HE.o.trans (aw (by rw[HNB.o,OC,e2,e3];rfl)));go_wp2;go_ret;exact⟨cz HE.o.symm,eI.o⟩
  have e3:(r.Gg==3)=false:=beq_eq_false_iff_ne.2 k3;replace HE:=aa (HE.o.trans (bh (by rw[HNB.o,OC,e2,e3];simp)));clear k2 k3 HNB;go_upto_region 11 with(fail);clear q3 q5 e2 e3 hn OU;have q4:=aG (aq a5.o) (mi a5.o 4 _ rfl);have q6:=aG (aq a5.o) (mi a5.o 6 _ rfl);have Rt:=aa fun q:fo=>GJ r.tag (ext W4 q) Zu.o.1;have HT2:=aa fun q:fo=>GJ r.sep (ext W4 q) Zu.o.2;have ag:∃b,b=mr r.tag:=⟨_,rfl⟩;have ht2:∃b,b=mr r.sep:=⟨_,rfl⟩;obtain⟨b1,a8⟩:=ag;obtain⟨b2,hb2⟩:=ht2;rw[<- a8]at Rt;rw[<- hb2]at HT2;have a7:Hid ((eu r.tag&&eu r.sep)=((r.tag.toList.isEmpty||b1)&&(r.sep.toList.isEmpty||b2))):=aa (by rw[a8,hb2];rfl);clear a8 hb2;cases h4:r.tag.toList.isEmpty<;>cases h6:r.sep.toList.isEmpty<;>cases b1<;>cases b2
  all_goals
   rw[h4,h6]at a7;(first|(replace HE:=aa (HE.o.trans (aw (a7.o.trans rfl))))|(replace HE:=aa (HE.o.trans (bh (by rw[a7.o];decide)))))
   clear a7;(refine wp_region_quiet_lit ?_;(repeat(go_big_quiet_step (((first|(go_at_call 38;exact iH (Rt.o _))|(go_at_call 38;exact iH (HT2.o _)))))));(with_reducible refine fR ?_);intro wq ia;have kq:=dY ia;clear ia)
   have eK:=Zbl eI kq;clear kq q4 q6;go_wp2;go_ret;exact⟨cz HE.o.symm,eK.o⟩
 |false =>
  rw[hn,bh Tc2]at HNB;cases hs:(aM g.F9 r.near).isSome with
  |false =>
   rw[hs]at HNB OU;have hk:decide (kk<0)=true:=OU.o;replace HE:=aa (HE.o.trans (aw HNB.o));go_wp2;go_ret;exact⟨cz HE.o.symm,eI.o⟩
  |true =>
   rw[hs]at HNB OU;have hk:decide (kk<0)=false:=OU.o;replace HE:=aa (HE.o.trans (bh (by rw[HNB.o];simp)));clear HNB;go_upto_region 11 with(fail);clear q3 q5 hn hk OU hs;have q4:=aG (aq a5.o) (mi a5.o 4 _ rfl);have q6:=aG (aq a5.o) (mi a5.o 6 _ rfl);have Rt:=aa fun q:fo=>GJ r.tag (ext W4 q) Zu.o.1;have HT2:=aa fun q:fo=>GJ r.sep (ext W4 q) Zu.o.2;have ag:∃b,b=mr r.tag:=⟨_,rfl⟩;have ht2:∃b,b=mr r.sep:=⟨_,rfl⟩;obtain⟨b1,a8⟩:=ag;obtain⟨b2,hb2⟩:=ht2;rw[<- a8]at Rt;rw[<- hb2]at HT2;have a7:Hid ((eu r.tag&&eu r.sep)=((r.tag.toList.isEmpty||b1)&&(r.sep.toList.isEmpty||b2))):=aa (by rw[a8,hb2];rfl);clear a8 hb2;cases h4:r.tag.toList.isEmpty<;>cases h6:r.sep.toList.isEmpty<;>cases b1<;>cases b2
   all_goals
    rw[h4,h6]at a7;(first|(replace HE:=aa (HE.o.trans (aw (a7.o.trans rfl))))|(replace HE:=aa (HE.o.trans (bh (by rw[a7.o];decide)))))
    clear a7;(refine wp_region_quiet_lit ?_;(repeat(go_big_quiet_step (((first|(go_at_call 38;exact iH (Rt.o _))|(go_at_call 38;exact iH (HT2.o _)))))));(with_reducible refine fR ?_);intro wq ia;have kq:=dY ia;clear ia)
    have eK:=Zbl eI kq;clear kq q4 q6;go_wp2;go_ret;exact⟨cz HE.o.symm,eK.o⟩
def Mr{ok:Nat->Prop}(l:List ByteArray)(v:Value)(x:ByteArray)(w:World)(h:ck aF 1 ok w [v] l)(hl:l.length<=1000000) :
  Calls prog 93 #[v,.string x] w fun e w'=>e=.returned (.bool (bI l x))/\w=w':=by
 obtain⟨p,cap,rfl,a5,zc⟩:=h.cap;have HH:=aa h;clear h;go_enter func93,ntmps93;go_wp2
 go_loop[5] (fun i=>∃k:Nat,k<=l.length/\i=.int .i64 k/\bI (l.take k) x=false) (fun i=>l.length-(intOf i).toNat)
 exact⟨0,cg _,rfl,rfl⟩;obtain⟨k,hk,rfl,hall⟩:=hrel;replace hall:=aa hall;by_cases hlt:k<l.length
 ·obtain⟨y,hy⟩:=aj l k hlt;obtain⟨b,off,us,rfl,gR,cX,ez,eE,ON⟩:=HH.o.elem hy;obtain rfl:us=_:=eE;have q0:=ON 0 _ rfl;rw[fp,fg]at q0;replace hy:=aa hy;clear ON ez;by_cases hs:y=x
  ·have hb:(y.toList==x.toList)=true:=by rw[hs];simp
   have HR:Hid (bI l x=true):=aa (ny.2 (hs ▸ ct hy.o));clear hs;go_wp2;go_ret;exact⟨ah HR.o.symm,rfl⟩
  have hb:=jI hs;have HR:Hid (bI (l.take (k+1)) x=false):=aa (by rw[take_snoc' l k y hy.o,fU,hall.o,cN hs];rfl);clear hs;exact Tck
 obtain rfl:k=l.length:=by omega
 rw[cI]at hall;go_wp2;go_ret;exact⟨ah hall.o.symm,rfl⟩
def DC{ok:Nat->Prop}(g:af)(a:bN)(r:aY)(d:az)(tp:Option Addr)(tc:Nat)(w:World)(ht:ck aF 1 ok w [.slice tp d.tags.length tc] d.tags)(nt:d.tags.length<=1000000)(h2:¬r.Gg=2)(h3:¬r.Gg=3) :
  Calls prog 49 #[.agg (Tad g a),.agg (Tal r),.agg (Tai d tp tc)] w (iI (nD g r d) w):=by
 have e2:(r.Gg==2)=false:=beq_eq_false_iff_ne.2 h2;have e3:(r.Gg==3)=false:=beq_eq_false_iff_ne.2 h3;have HR:Hid (nD g r d=((!d.closed&&!d.missing)&&(r.tag.toList.isEmpty||bI d.tags r.tag))):=aa (by
  unfold nD iD jV jG nN vE;rw[e2,e3];simp)
 have n2:(r.Gg != 2)=true:=by simpa using h2
 have n3:(r.Gg != 3)=true:=by simpa using h3
 clear e2 e3 h2 h3;have hA1:=ae w (.cells (Tad g a) 31);have hA2:=ae (w.alloc (.cells (Tad g a) 31)) (.cells (Tal r) 34);have kc:=b9 (w.alloc (.cells (Tad g a) 31)) (.cells (Tal r) 34);have hA3:=ae ((w.alloc (.cells (Tad g a) 31)).alloc (.cells (Tal r) 34)) (.cells (Tai d tp tc) 51);have HBD:=aa (b9 ((w.alloc (.cells (Tad g a) 31)).alloc (.cells (Tal r) 34)) (.cells (Tai d tp tc) 51));have C1:=aa ((hA3.block _ (aq kc)).trans kc);have sa:=hA1.trans (hA2.mono hA1.size);have HB:=aa (sa.trans (hA3.mono sa.size));rw[cW]at C1;rw[cW,cW]at HBD;have HT:=aa ((ck.moves aF.moves).mv (Mv.of HB.o) ht);clear hA1 hA2 hA3 kc sa ht;go_enter func49,ntmps49
 go_upto_region 1 with(fail);generalize R0:AI (AI (AI w _) _) _=W1 at *;clear R0;have qL:=mi C1.o;have q3:=qL 3 _ rfl;have q4:=qL 4 _ rfl;have dL:=mi HBD.o;have d4:=dL 4 _ rfl;have d5:=dL 5 _ rfl;have d6:=dL 6 _ rfl;clear qL dL;have HC:=aa (Mr d.tags _ r.tag W1 HT.o nt);clear HT C1 HBD;cases hc:d.closed with
 |true =>
  rw[hc]at d4 HR;go_wp2;go_ret;exact⟨Tdf,HB.o⟩
 |false =>
  rw[hc]at d4 HR;cases hm:d.missing with
  |true =>
   rw[hm]at d5 HR;go_wp2;go_ret;exact⟨Tdf,HB.o⟩
  |false =>
   rw[hm]at d5 HR;cases PE:r.tag.toList.isEmpty with
   |true =>
    rw[PE]at HR;go_wp2;go_ret;exact⟨Tdf,HB.o⟩
   |false =>
    rw[PE]at HR;cases hh:bI d.tags r.tag with
    |true =>
     rw[hh]at HR HC;clear hh;go_wp2_with(refine HC.o.mono ?_;rintro e w5 ⟨rfl,rfl⟩)
     go_ret;exact⟨Tdf,HB.o⟩
    |false =>
     rw[hh]at HR HC;clear hh;go_wp2_with(refine HC.o.mono ?_;rintro e w5 ⟨rfl,rfl⟩)
     go_ret;exact⟨Tdf,HB.o⟩
end Go.Proofs.YtaagglbgohjldaaGreatDoor
