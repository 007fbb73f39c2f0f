/- Lemmas: RgH, RgI, RgJ, RgK. -/
import Derived.Test.YtaagglbgohjldaaGreatDoorQv45
import Derived.Test.YtaagglbgohjldaaGreatDoorQv27
set_option maxRecDepth 100000
set_option maxHeartbeats 32000000
set_option linter.all false
namespace Go.Proofs.YtaagglbgohjldaaGreatDoor
open Go.Proofs.Tryz
open Go.RowKit Go.Maps Go.Shelf
variable {ok:Nat->Prop}{v:ay}{s:aB}
theorem Tbt {p:Prop}(h:p:=by
 clear h6
 cases Fi:s.log.toList.isEmpty with
 | true =>
  go_wp2;go_ret;exact ⟨rfl,fy.o⟩
 | false =>
  have dl:=HLL.o Fi;go_wp2;go_ret;exact ⟨rfl,fy.o⟩):p:=h
theorem JM (g:af)(a:bN)(s:aB)(u:List Value)(w:World)(hv:bC ok w u s)(hg:dN ok w g a)(hz:JT g)(_hal:s.Ga.length<=1000000)(he:jw g s=true) :
  Calls prog 78 #[.agg (Tad g a),.agg u.toArray] w fun e w'=>e=.returned (.bool true)/\Below w.heap.size w w':=by
 have HEA:=aa fun (r:aR) (hr:r∈s.Ga)=>JU he hr;have PH:=aa fun h=>Km he h;have HEP:=aa fun h=>II he h;clear he;obtain ⟨av,Oz,rfl,py,TG⟩:=hv;obtain ⟨ap,ac,rfl,_,_⟩:=py.cap;obtain ⟨eN,eR,rfl,_,_⟩:=TG.cap;have HA:=aa py;clear py TG;have hA1:=ae w (.cells (Tad g a) 31);have hA2:=ae (w.alloc (.cells (Tad g a) 31)) (.cells (Tae s ap ac eN eR) 114);have hN1:=b9 w (.cells (Tad g a) 31);have fl:=aa (b9 (w.alloc (.cells (Tad g a) 31)) (.cells (Tae s ap ac eN eR) 114));have Mk:=aa ((hA2.block _ (aq hN1)).trans hN1);have HB:=aa (hA1.trans (hA2.mono hA1.size));have Lm:=aa (hg.mv (Mv.of HB.o));have mb:=hz.vl;have CD:=hz.dl;clear hA1 hA2 hN1 hg;rw [cW] at fl;go_enter func78,ntmps78
 go_upto_region 1 with (fail);generalize World.alloc (World.alloc w _) _=W1 at *;generalize hE1:w.heap.size+1=Bs at fl ⊢;generalize hE0:w.heap.size=Bg at Mk ⊢;clear hE1 hE0;go_wp2;go_loopw [5] (fun i wr=>∃ k:Nat,k<=s.Ga.length/\i=.int .i64 k/\Below W1.heap.size W1 wr) (fun i _=>s.Ga.length - (intOf i).toNat)
 exact ⟨0,cg _,rfl,bj _ _⟩;obtain ⟨k,hk,rfl,hB⟩:=hrel;have Mt:=aa hB;have ap2:=fl;have Ml:=Mk;have ap3:=Lm;replace fl:=Zbk hB fl;replace Mk:=Zbk hB Mk;replace Lm:=aa (Lm.o.mv (Mv.of hB));have fy:=Zbl HB hB;clear hB ap2 Ml ap3;have s3:=mi fl.o 3 _ rfl;by_cases hlt:k<s.Ga.length
 ·obtain ⟨r,hr⟩:=aj s.Ga k hlt;have hrm:=ct hr;obtain ⟨b,off,us,rfl,_,cX,_,eE,hcv⟩:=HA.o.elem hr;obtain rfl:us=_:=eE;have cT:=fy.o.block b cX;have hbl:=cC cX fy.o.size;obtain ⟨q0,q1,q2⟩:=Mn cT hcv;clear hcv hr cT;obtain ⟨ha1,ha2⟩:=HEA.o r hrm;go_upto_region 4 with (fail);refine Jn (ok:=ok) _ wr g a Bg Bs b off k s.Ga.length ac r.on Mk.o (aq fl.o) s3 hlt hbl q1 Lm.o mb _ _ rfl rfl (aa ?_) (fun _ _ _ _ _ h=>h);intro tp tc sp sc aB5 bX4 X4 _ _ _ _ _ _ _ _ _ _ _ ar7 ap4 ay1 ay2 ay3;have eI:=aa ap4;have h0:=aq fl.o;replace fl:=Zbk ap4 fl;replace Mk:=Zbk ap4 Mk;replace Lm:=aa (Lm.o.mv (Mv.of ap4));replace s3:=(ap4.cell (p:=⟨Bs,3,none⟩) h0).trans s3;replace q0:=(ap4.cell (p:=⟨b,off+k*3,none⟩) hbl).trans q0;replace q1:=(ap4.cell (p:=⟨b,off+k*3+1,none⟩) hbl).trans q1;replace hbl:=cC hbl ap4.size;clear q2 ap4 ay1 ay2 ay3 h0;go_upto_region 5 with (fail);refine Jr (ok:=ok) _ X4 g a Bg Bs b off k s.Ga.length ac r.on Mk.o (aq fl.o) s3 hlt hbl q1 Lm.o CD _ _ rfl rfl (aa ?_) (fun _ _ _ _ _ h=>h);intro tp5 tc5 az4 bX5 X5 _ _ _ _ _ _ _ _ _ _ _ am1 ak3 ar8 ap7 ar9;have eK:=aa (Mt.o.trans ((eI.o.trans (ak3.mono eI.o.size)).mono Mt.o.size));have h0:=aq fl.o;replace s3:=(ak3.cell (p:=⟨Bs,3,none⟩) h0).trans s3;replace q0:=(ak3.cell (p:=⟨b,off+k*3,none⟩) hbl).trans q0;clear q1 hbl ak3 ar8 ap7 ar9 h0 fl Mk Lm eI Mt fy;cases pS:r.vol with
  | true =>
   rw [pS] at q0;have hd:decide (aB5<0)=false:=by rw [ar7,ha1 pS];rfl
   clear ar7 am1 ha1 ha2 pS hrm;go_wp2;go_roundw;exact ⟨k+1,TcC,TcG,eK.o⟩;simp [intOf];omega
  | false =>
   rw [pS] at q0;have hd:decide (az4<0)=false:=by rw [am1,ha2 pS];rfl
   clear ar7 am1 ha1 ha2 pS hrm;go_wp2;go_roundw;exact ⟨k+1,TcC,TcG,eK.o⟩;simp [intOf];omega
 clear hk Mt;go_upto_region 8 with (fail);clear s3;have gL:=mi Mk.o;obtain ⟨g0,g1,g2,g3,g4,g5,g6,g7,g8⟩:=xr gL;have sL:=mi fl.o;have sn:=sL 6 _ rfl;clear gL sL;go_wp2_with fail;clear g0 g1 g2 g3 g4 g5 g6 g7 g8 sn;refine (aj7 g a s.log wr Lm.o.F9 mb).mono ?_;rintro e wL ⟨uL,kl,rfl,hv,au9,hb⟩;have XR:=aa hv;obtain ⟨tv,sv,rfl,ew,fL⟩:=hv;obtain ⟨tpL,tcL,rfl,_,_⟩:=ew.cap;obtain ⟨spL,scL,rfl,_,_⟩:=fL.cap;clear ew fL;generalize hxL:(aM g.F9 s.log).getD eY=xL at *;have pC:=ae wL (.cells (Taf xL tpL tcL spL scL) 68);have Qp:=aa (b9 wL (.cells (Taf xL tpL tcL spL scL) 68));have hBN:=hb.trans (pC.mono hb.size);replace Mk:=Zbk hBN Mk;replace fl:=Zbk hBN fl;replace Lm:=aa (Lm.o.mv (Mv.of hBN));replace fy:=Zbl fy hBN;replace XR:=aa (aN.moves.mv (Mv.of pC) XR.o);clear hb pC hBN;go_upto_region 9 with (fail);generalize World.alloc wL _=VL at *;generalize wL.heap.size=BL at Qp ⊢;have gL:=mi Mk.o;obtain ⟨g0,g1,g2,g3,g4,g5,g6,g7,g8⟩:=xr gL;have sL:=mi fl.o;have sn:=sL 7 _ rfl;clear gL sL;go_wp2_with fail;clear g0 g1 g2 g3 g4 g5 g6 g7 g8 sn;refine (aj7 g a s.pool VL Lm.o.F9 mb).mono ?_;rintro e wP ⟨uP,kp,rfl,hv,av0,hb⟩;have XR:=aa hv;obtain ⟨tv,sv,rfl,ew,fL⟩:=hv;obtain ⟨tpP,tcP,rfl,_,_⟩:=ew.cap;obtain ⟨spP,scP,rfl,_,_⟩:=fL.cap;clear ew fL;generalize hxP:(aM g.F9 s.pool).getD eY=xP at *;have pC:=ae wP (.cells (Taf xP tpP tcP spP scP) 68);have Qp:=aa (b9 wP (.cells (Taf xP tpP tcP spP scP) 68));have hBN:=hb.trans (pC.mono hb.size);replace Mk:=Zbk hBN Mk;replace fl:=Zbk hBN fl;replace Lm:=aa (Lm.o.mv (Mv.of hBN));replace fy:=Zbl fy hBN;replace XR:=aa (aN.moves.mv (Mv.of pC) XR.o);clear hb pC hBN;go_upto_region 10 with (fail);generalize World.alloc wP _=VP at *;generalize wP.heap.size=BP at Qp ⊢;have sL:=mi fl.o;have s2:=sL 2 _ rfl;have s6:=sL 6 _ rfl;clear sL Qp XR;have HLL:Hid (s.log.toList.isEmpty=false->decide (0<=kl)=true):=aa fun h=>by
  rw [PH.o h] at au9;have:=of_decide_eq_false au9;exact eA TcC
 have HPP:Hid (s.kind=6->decide (0<=kp)=true):=aa fun h=>by
  rw [HEP.o h] at av0;have:=of_decide_eq_false av0;exact eA TcC
 clear au9 av0;by_cases h6:s.kind=6
 ·have e6:(s.kind != 6)=false:=by rw [h6];rfl
  have d6:=HPP.o h6;exact Tbt
 have e6:(s.kind != 6)=true:=bne_iff_ne.2 h6;exact Tbt
theorem JW (g:af)(a:bN)(s:aB)(u:List Value)(w:World)(hv:bC ok w u s)(hg:dN ok w g a)(hz:JT g)(hal:s.Ga.length<=1000000)(hl:0<=s.length/\s.length<=1000000)(vu:∀ d∈g.Gb,0<=d.Gc/\d.Gc<=1000000)(he:s.Ga.all (fI g s)=true) :
  Calls prog 79 #[.agg (Tad g a),.agg u.toArray] w fun e w'=>e=.returned (.bool true)/\Below w.heap.size w w':=by
 have HEA:=aa fun (r:aR) (hr:r∈s.Ga) hv=>KX he hr hv
 have kj:Hid (∀ nm,0<=((bH g.Gb nm).getD gT).Gc/\((bH g.Gb nm).getD gT).Gc<=1000000):=aa fun nm=>by
  cases h:bH g.Gb nm with
  | none=>exact ⟨Int.le_refl _,TcF⟩
  | some d=>exact vu d (eV h)
 clear he vu;obtain ⟨av,Oz,rfl,py,TG⟩:=hv;obtain ⟨ap,ac,rfl,_,_⟩:=py.cap;obtain ⟨eN,eR,rfl,_,_⟩:=TG.cap;have HA:=aa py;clear py TG;have hA1:=ae w (.cells (Tad g a) 31);have hA2:=ae (w.alloc (.cells (Tad g a) 31)) (.cells (Tae s ap ac eN eR) 114);have hN1:=b9 w (.cells (Tad g a) 31);have fl:=aa (b9 (w.alloc (.cells (Tad g a) 31)) (.cells (Tae s ap ac eN eR) 114));have Mk:=aa ((hA2.block _ (aq hN1)).trans hN1);have HB:=aa (hA1.trans (hA2.mono hA1.size));have Lm:=aa (hg.mv (Mv.of HB.o));have mb:=hz.vl;have CD:=hz.dl;clear hA1 hA2 hN1 hg;rw [cW] at fl;go_enter func79,ntmps79
 go_upto_region 1 with (fail);generalize World.alloc (World.alloc w _) _=W1 at *;generalize hE1:w.heap.size+1=Bs at fl ⊢;generalize hE0:w.heap.size=Bg at Mk ⊢;clear hE1 hE0;go_wp2;go_loopw [5] (fun i wr=>∃ k:Nat,k<=s.Ga.length/\i=.int .i64 k/\Below W1.heap.size W1 wr) (fun i _=>s.Ga.length - (intOf i).toNat)
 exact ⟨0,cg _,rfl,bj _ _⟩;obtain ⟨k,hk,rfl,hB⟩:=hrel;have Mt:=aa hB;have ap2:=fl;have Ml:=Mk;have ap3:=Lm;replace fl:=Zbk hB fl;replace Mk:=Zbk hB Mk;replace Lm:=aa (Lm.o.mv (Mv.of hB));have fy:=Zbl HB hB;clear hB ap2 Ml ap3;have s3:=mi fl.o 3 _ rfl;by_cases hlt:k<s.Ga.length
 ·obtain ⟨r,hr⟩:=aj s.Ga k hlt;have hrm:=ct hr;obtain ⟨b,off,us,rfl,_,cX,_,eE,hcv⟩:=HA.o.elem hr;obtain rfl:us=_:=eE;have cT:=fy.o.block b cX;have hbl:=cC cX fy.o.size;obtain ⟨q0,q1,q2⟩:=Mn cT hcv;clear hcv hr cT;cases pS:r.vol with
  | true =>
   rw [pS] at q0;have az5:Hid (∀ n,Below W1.heap.size W1 (wr.drewN n)):=aa fun n=>aT Mt.o n;clear Mt fl Mk Lm fy hbl q1 q2 pS hrm;go_wp2;go_roundw
   exact ⟨k+1,TcC,TcG,by first | exact az5.o 0 | exact az5.o _⟩;simp [intOf];omega
  | false =>
   rw [pS] at q0;obtain ⟨ha1,ha2,ha3⟩:=HEA.o r hrm pS;obtain ⟨hd1,hd2⟩:=kj.o r.on;clear pS hrm;go_upto_region 5 with (fail);refine Jk (ok:=ok) _ wr g a Bg Bs b off k s.Ga.length ac r.on Mk.o (aq fl.o) s3 hlt hbl q1 Lm.o CD _ _ rfl rfl (aa ?_) (fun _ _ _ _ _ h=>h);intro tp5 tc5 az4 bX5 X5 _ _ _ _ _ _ _ _ _ _ _ am1 ak3 ar8 ap7 ar9;generalize (bH g.Gb r.on).getD gT=x at *;have eK:=Zbl Mt ak3;have h0:=aq fl.o;replace fl:=Zbk ak3 fl;replace s3:=(ak3.cell (p:=⟨Bs,3,none⟩) h0).trans s3;replace q0:=(ak3.cell (p:=⟨b,off+k*3,none⟩) hbl).trans q0;replace q1:=(ak3.cell (p:=⟨b,off+k*3+1,none⟩) hbl).trans q1;replace q2:=(ak3.cell (p:=⟨b,off+k*3+2,none⟩) hbl).trans q2;have Qp:=aa ap7;clear hbl ak3 ar8 ap7 ar9 h0 Mk Lm Mt fy am1;have hA:=ae X5 (.cells (Tay r) 53);have HAB:=aa (b9 X5 (.cells (Tay r) 53));replace fl:=Zbk hA fl;replace Qp:=Zbk hA Qp;replace eK:=Zbl eK hA;clear hA;go_upto_region 7 with (fail);clear q0 q1 q2 s3;generalize World.alloc X5 _=X6 at *;generalize X5.heap.size=Ba at HAB ⊢;have c1:decide (r.start<0)=false:=cN TcC;have c2:decide (x.Gc<r.start)=false:=cN TcC;have c3:decide (x.Gc - r.start<iB s.kind s.length s.Ga.length)=false:=cN TcC;have hw:IntKind.i64.wrap (x.Gc - r.start)=x.Gc - r.start:=dy _ TcC;have sL:=mi fl.o;have GF:=aq fl.o;have s0:=aG GF (sL 0 _ rfl);have s1:=aG GF (sL 1 _ rfl);have s2:=aG GF (sL 2 _ rfl);have s3:=aG GF (sL 3 _ rfl);have s4:=aG GF (sL 4 _ rfl);have s5:=aG GF (sL 5 _ rfl);have s6:=aG GF (sL 6 _ rfl);have s7:=aG GF (sL 7 _ rfl);have s8:=aG GF (sL 8 _ rfl);have s9:=aG GF (sL 9 _ rfl);have s10:=aG GF (sL 10 _ rfl);have a2:=aG (aq HAB.o) (mi HAB.o 2 _ rfl);have x3:=aG (aq Qp.o) (mi Qp.o 3 _ rfl);have hl1:=hl.1;have hl2:=hl.2;clear sL GF fl Qp HAB hl ha1 ha2 ha3 hd1 hd2;(refine aU TcE TcE ?_;(repeat (go_big_quiet_step ((go_at_call 92;exact iH (Im _ _ _ _ _ _ _ _ _ _ _ _ _ _ _ _ hl1 TcC TcC)))));(with_reducible refine fR ?_);intro wq ia;have kq:=dY ia;clear ia)
   have wk:=Zbl eK kq;clear kq s0 s1 s2 s3 s4 s5 s6 s7 s8 s9 s10 a2 x3 c1 c2 c3 hw;go_wp2;go_roundw;exact ⟨k+1,TcC,TcG,wk.o⟩;simp [intOf];omega
 clear hk Mt;go_wp2;go_ret;exact ⟨rfl,fy.o⟩
theorem Kh (g:af)(a:bN)(s:aB)(u:List Value)(w:World)(hv:bC ok w u s)(hg:dN ok w g a)(hz:JT g)(hal:s.Ga.length<=1000000)(he6:s.kind=6->eZ ((aM g.F9 s.pool).getD eY)=5)(he:(dD s false).any (dh g)=false) :
  Calls prog 81 #[.agg (Tad g a),.agg u.toArray] w fun e w'=>e=.returned (.bool true)/\Below w.heap.size w w':=by
 have HEA:=aa fun (r:aR) (hr:r∈s.Ga) hv=>IK (J8 he hr hv);have PH:=aa fun h=>IK (KO he h);have HE6:=aa he6
 have Zu:Hid (∀ nm,((aM g.F9 nm).getD eY).Gf.length<=1000000000):=aa fun nm=>by
  have:=(Dt hz nm).Gf;omega
 clear he he6;obtain ⟨av,Oz,rfl,py,TG⟩:=hv;obtain ⟨ap,ac,rfl,_,_⟩:=py.cap;obtain ⟨eN,eR,rfl,_,_⟩:=TG.cap;have HA:=aa py;clear py TG;have hA1:=ae w (.cells (Tad g a) 31);have hA2:=ae (w.alloc (.cells (Tad g a) 31)) (.cells (Tae s ap ac eN eR) 114);have hN1:=b9 w (.cells (Tad g a) 31);have fl:=aa (b9 (w.alloc (.cells (Tad g a) 31)) (.cells (Tae s ap ac eN eR) 114));have Mk:=aa ((hA2.block _ (aq hN1)).trans hN1);have HB:=aa (hA1.trans (hA2.mono hA1.size));have Lm:=aa (hg.mv (Mv.of HB.o));have mb:=hz.vl;have CD:=hz.dl;clear hA1 hA2 hN1 hg;rw [cW] at fl;go_enter func81,ntmps81
 go_upto_region 1 with (fail);generalize World.alloc (World.alloc w _) _=W1 at *;generalize hE1:w.heap.size+1=Bs at fl ⊢;generalize hE0:w.heap.size=Bg at Mk ⊢;clear hE1 hE0;have s2:=mi fl.o 2 _ rfl;by_cases h6:s.kind=6
 ·have e6:(s.kind == 6)=true:=by rw [h6];rfl
  have hk5:=HE6.o h6;have hks:=Zu.o s.pool;have fy:=HB;clear h6;go_upto_region 2 with (fail);clear s2 e6;have gL:=mi Mk.o;obtain ⟨g0,g1,g2,g3,g4,g5,g6,g7,g8⟩:=xr gL;have sL:=mi fl.o;have sn:=sL 7 _ rfl;clear gL sL;go_wp2_with fail;clear g0 g1 g2 g3 g4 g5 g6 g7 g8 sn;refine (aj7 g a s.pool W1 Lm.o.F9 mb).mono ?_;rintro e wP ⟨uP,kk,rfl,hv,av0,hb⟩;have XR:=aa hv;obtain ⟨tv,sv,rfl,ew,fL⟩:=hv;obtain ⟨tpP,tcP,rfl,_,_⟩:=ew.cap;obtain ⟨spP,scP,rfl,_,_⟩:=fL.cap;clear ew fL;generalize hxP:(aM g.F9 s.pool).getD eY=xP at *;have pC:=ae wP (.cells (Taf xP tpP tcP spP scP) 68);have Qp:=aa (b9 wP (.cells (Taf xP tpP tcP spP scP) 68));have hBN:=hb.trans (pC.mono hb.size);replace Mk:=Zbk hBN Mk;replace fl:=Zbk hBN fl;replace Lm:=aa (Lm.o.mv (Mv.of hBN));replace fy:=Zbl fy hBN;replace XR:=aa (aN.moves.mv (Mv.of pC) XR.o);clear hb pC hBN;go_upto_region 3 with (fail);generalize World.alloc wP _=VP at *;generalize wP.heap.size=BP at Qp ⊢;obtain ⟨y0,y1,y2,y3,y4,y5⟩:=I6 Qp.o;have HKX:=aa fun q:fo=>(aN.moves.mv (Mv.of (dQ VP q)) XR.o:aN _ (ext VP q) _ _);have e5:(eZ xP == 5)=true:=by rw [hk5];rfl
  clear hk5 hxP av0 XR Qp;(refine wp_region_quiet_lit ?_;(repeat (go_big_quiet_step ((go_at_call 84;exact iH (pq _ _ _ (HKX.o _) hks)))));(with_reducible refine fR ?_);intro wqA ia;have az6:=dY ia;clear ia)
  have TF:=Zbl fy az6;clear az6 y0 y1 y2 y3 y4 y5;go_wp2;go_ret;exact ⟨rfl,TF.o⟩
 have e6:(s.kind == 6)=false:=by simpa using h6
 clear h6;go_upto_region 4 with (fail);clear s2 e6;go_wp2;go_loopw [7] (fun i wr=>∃ k:Nat,k<=s.Ga.length/\i=.int .i64 k/\Below W1.heap.size W1 wr) (fun i _=>s.Ga.length - (intOf i).toNat)
 exact ⟨0,cg _,rfl,bj _ _⟩;obtain ⟨k,hk,rfl,hB⟩:=hrel;have Mt:=aa hB;have ap2:=fl;have Ml:=Mk;have ap3:=Lm;replace fl:=Zbk hB fl;replace Mk:=Zbk hB Mk;replace Lm:=aa (Lm.o.mv (Mv.of hB));have fy:=Zbl HB hB;clear hB ap2 Ml ap3;have s3:=mi fl.o 3 _ rfl;by_cases hlt:k<s.Ga.length
 ·obtain ⟨r,hr⟩:=aj s.Ga k hlt;have hrm:=ct hr;obtain ⟨b,off,us,rfl,_,cX,_,eE,hcv⟩:=HA.o.elem hr;obtain rfl:us=_:=eE;have cT:=fy.o.block b cX;have hbl:=cC cX fy.o.size;obtain ⟨q0,q1,q2⟩:=Mn cT hcv;clear hcv hr cT;have hbl0:=hbl;have ax5:=aa (HEA.o r hrm);have hks:=Zu.o r.on;go_upto_region 7 with (fail);refine JX (ok:=ok) _ wr g a Bg Bs b off k s.Ga.length ac r.on Mk.o (aq fl.o) s3 hlt hbl q1 Lm.o mb _ _ rfl rfl (aa ?_) (fun _ _ _ _ _ h=>h);intro tp tc sp sc aD2 bX7 X7 _ _ _ _ _ _ _ _ _ _ _ ay4 at6 ay5 av9 aw0;generalize (aM g.F9 r.on).getD eY=x at *;have wk:=Zbl Mt at6;have h0:=aq fl.o;replace s3:=aG (cC h0 at6.size) ((at6.cell (p:=⟨Bs,3,none⟩) h0).trans s3);replace q0:=aG (cC hbl at6.size) ((at6.cell (p:=⟨b,off+k*3,none⟩) hbl).trans q0);have Qp:=aa av9;have HKX:=aa fun q:fo=>(aN.moves.mv (Mv.of (dQ X7 q)) aw0:aN _ (ext X7 q) _ _);clear hbl hbl0 q1 q2 at6 ay5 av9 aw0 h0 fl Mk Lm Mt fy ay4;obtain ⟨y0,y1,y2,y3,y4,y5⟩:=I6 Qp.o;clear Qp
  go_upto_region 8 with (fail)
  cases pS:r.vol with
  | true =>
   rw [pS] at q0;obtain ⟨n6,n5⟩:=ax5.o pS;clear pS hrm ax5;(refine wp_region_quiet_lit ?_;(repeat (go_big_quiet_step ((go_at_call 84;exact iH (pq _ _ _ (HKX.o _) hks)))));(with_reducible refine fR ?_);intro wqB ia;have av4:=dY ia;clear ia)
   have Ix:=Zbl wk av4;clear av4 y0 y1 y2 y3 y4 y5 q0 s3 n6 n5;go_wp2;go_roundw;exact ⟨k+1,TcC,TcG,Ix.o⟩;simp [intOf];omega
  | false =>
   rw [pS] at q0;clear pS hrm ax5;(refine wp_region_quiet_lit ?_;(repeat (go_big_quiet_step ((fail))));(with_reducible refine fR ?_);intro wqB ia;have av4:=dY ia;clear ia)
   have Ix:=Zbl wk av4;clear av4 y0 y1 y2 y3 y4 y5 q0 s3;go_wp2;go_roundw;exact ⟨k+1,TcC,TcG,Ix.o⟩;simp [intOf];omega
 clear hk Mt;have hks:=Zu.o s.log;have aB6:=aa PH.o;go_upto_region 10 with (fail);clear s3;have gL:=mi Mk.o;obtain ⟨g0,g1,g2,g3,g4,g5,g6,g7,g8⟩:=xr gL;have sL:=mi fl.o;have sn:=sL 6 _ rfl;clear gL sL;go_wp2_with fail;clear g0 g1 g2 g3 g4 g5 g6 g7 g8 sn;refine (aj7 g a s.log wr Lm.o.F9 mb).mono ?_;rintro e wL ⟨uL,kl,rfl,hv,au9,hb⟩;have XR:=aa hv;obtain ⟨tv,sv,rfl,ew,fL⟩:=hv;obtain ⟨tpL,tcL,rfl,_,_⟩:=ew.cap;obtain ⟨spL,scL,rfl,_,_⟩:=fL.cap;clear ew fL;generalize hxL:(aM g.F9 s.log).getD eY=xL at *;have pC:=ae wL (.cells (Taf xL tpL tcL spL scL) 68);have Qp:=aa (b9 wL (.cells (Taf xL tpL tcL spL scL) 68));have hBN:=hb.trans (pC.mono hb.size);replace Mk:=Zbk hBN Mk;replace fl:=Zbk hBN fl;replace Lm:=aa (Lm.o.mv (Mv.of hBN));replace fy:=Zbl fy hBN;replace XR:=aa (aN.moves.mv (Mv.of pC) XR.o);clear hb pC hBN;go_upto_region 11 with (fail);generalize World.alloc wL _=VL at *;generalize wL.heap.size=BL at Qp ⊢;obtain ⟨y0,y1,y2,y3,y4,y5⟩:=I6 Qp.o;have s6:=aG (aq fl.o) (mi fl.o 6 _ rfl);have HKX:=aa fun q:fo=>(aN.moves.mv (Mv.of (dQ VL q)) XR.o:aN _ (ext VL q) _ _);clear hxL au9 XR Qp fl Mk Lm;cases Fi:s.log.toList.isEmpty with
 | true =>
  (refine wp_region_quiet_lit ?_;(repeat (go_big_quiet_step ((fail))));(with_reducible refine fR ?_);intro wqC ia;have av6:=dY ia;clear ia)
  have TF:=Zbl fy av6;clear av6 y0 y1 y2 y3 y4 y5 s6;go_wp2;go_ret;exact ⟨rfl,TF.o⟩
 | false =>
  obtain ⟨n6,n5⟩:=aB6.o Fi;have m6:(eZ xL != 6)=true:=by rw [bne,n6];rfl
  have m5:(eZ xL != 5)=true:=by rw [bne,n5];rfl
  (refine wp_region_quiet_lit ?_;(repeat (go_big_quiet_step ((go_at_call 84;exact iH (pq _ _ _ (HKX.o _) hks)))));(with_reducible refine fR ?_);intro wqC ia;have av6:=dY ia;clear ia)
  have TF:=Zbl fy av6;clear av6 y0 y1 y2 y3 y4 y5 s6;go_wp2;go_ret;exact ⟨rfl,TF.o⟩
theorem GQ {vn on:ByteArray}{vd:List UInt8}(h:dM vn vd on=true):(⟨(iK vn.data.toList vd).1.toArray⟩:ByteArray)=on/\(iK vn.data.toList vd).2=0:=by
 unfold dM pV at h;rw [eh,beq_iff_eq,beq_iff_eq] at h;have e:=h.2;rw [A6,A6] at e;exact ⟨ByteArray.ext (Array.toList_inj.1 e.symm),h.1⟩
theorem IL (nm on:ByteArray)(k:Nat)(W:World)(hs:nm.size<=1000000000)(hk:k<=1000000)(h:dM nm (bq k) on=true) :
  Calls prog 127 #[.string nm,.int .i64 (k:Int)] W fun e w'=>e=.returned (.tuple #[.string on,.int .i64 0])/\Below W.heap.size W w':=by
 have:=Kw nm.data.toList k W TdM TcC;rw [<- bytes_eta,(GQ h).1,(GQ h).2] at this;exact this
theorem Hf (nm on:ByteArray)(k:Int)(W:World)(hs:nm.size<=1000000000)(hk:-1000000<=k/\k<=1000000)(h:dM nm (dH k) on=true) :
  Calls prog 128 #[.string nm,.int .i64 k] W fun e w'=>e=.returned (.tuple #[.string on,.int .i64 0])/\Below W.heap.size W w':=by
 have:=I4 nm.data.toList k W TdM hk;rw [<- bytes_eta,(GQ h).1,(GQ h).2] at this;exact this
def Jf (kind:Int)(k:Nat):List UInt8:=if kind=3\/kind=4 then bq k else if kind=5 then dH (3 - (k:Int)) else if k=0 then bq 0 else dH (1+(k:Int))
theorem Kn (h:jS v s=true)(h5:s.kind=5->s.Ga.length<=2)(h7:s.kind=7->s.Ga.length<=3){k:Nat}{r:aR}(hr:s.Ga[k]?=some r)(hk:s.kind=3\/s.kind=4\/s.kind=5\/s.kind=7):dM v.name (Jf s.kind k) r.on=true:=by
 have hl:=(List.getElem?_eq_some_iff.1 hr).1;have ho:=uD hr;unfold jS at h;unfold Jf;by_cases c:s.kind=3\/s.kind=4
 ·rw [aw c,eh] at h;rw [aw c];have:=List.all_eq_true.1 h.1 k (List.mem_range.2 hl);rwa [ho] at this
 rw [bh c] at h ⊢;by_cases c5:s.kind=5
 ·rw [aw c5,eh] at h;rw [aw c5];have:=h5 c5;rcases (show k=0\/k=1 by omega) with rfl | rfl
  ·rw [ho] at h;exact h.1
  rw [ho] at h;exact h.2
 rw [bh c5,aw (show s.kind=7 by omega),eh,eh] at h;rw [bh c5];have:=h7 TcC;rcases (show k=0\/k=1\/k=2 by omega) with rfl | rfl | rfl
 ·rw [ho] at h;exact h.1.1
 ·rw [ho] at h;exact h.1.2
 rw [ho] at h;exact h.2
theorem Kt (h:jS v s=true)(h3:¬ s.kind=3->s.log.toList.isEmpty=true)(hl:s.log.toList.isEmpty=false):dM v.name (dH 1) s.log=true:=by
 have hk:s.kind=3:=Decidable.byContradiction fun q=>by
  rw [h3 q] at hl;cases hl
 unfold jS at h;rw [aw (.inl hk),eh,hl,nj] at h;exact h.2
theorem TcB {p:Prop}(h:p:=by
 go_wp2;go_roundw;exact ⟨k+1,TcC,TcG,eK.o⟩;simp [intOf];omega):p:=h
theorem Tcr {p:Prop}(h:p:=by
 rintro e w5 ⟨rfl,hb5⟩;have h0:=aq fl.o;replace s3:=(hb5.cell (p:=⟨Bs,3,none⟩) h0).trans s3;replace q1:=(hb5.cell (p:=⟨b,off+k*3+1,none⟩) hbl).trans q1;have eK:=Zbl Mt hb5;clear hb5 h0 x0 s2 fl Qe Mt fy hbl;exact TcB):p:=h
theorem Ta7 {p:Prop}(h:p:=by
 exact Tcr):p:=h
theorem Ta2 {p:Prop}(h:p:=by
 go_wp2_with fail;refine (IL v.name r.on k wr Yy.o TcC Mr.o).mono ?_;exact Tcr):p:=h
theorem Ki (v:ay)(s:aB)(u1 u2:List Value)(w:World)(sA:aN ok w u1 v)(hv:bC ok w u2 s)(hal:s.Ga.length<=1000000)(hn:v.name.size<=1000000000)(h5:s.kind=5->s.Ga.length<=2)(h7:s.kind=7->s.Ga.length<=3)(h3:¬ s.kind=3->s.log.toList.isEmpty=true)(he:jS v s=true) :
  Calls prog 80 #[.agg u1.toArray,.agg u2.toArray] w fun e w'=>e=.returned (.bool true)/\Below w.heap.size w w':=by
 have HNA:=aa fun (k:Nat) (r:aR) (hr:s.Ga[k]?=some r) hk=>Kn he h5 h7 hr hk;have Ns:=aa fun h=>Kt he h3 h;have Yy:=aa hn;have HL5:=aa h5;clear he h5 h7 h3 hn;obtain ⟨tv,sv,rfl,ew,fL⟩:=sA;obtain ⟨tp,tc,rfl,_,_⟩:=ew.cap;obtain ⟨sp,sc,rfl,_,_⟩:=fL.cap;obtain ⟨av,Oz,rfl,py,TG⟩:=hv;obtain ⟨ap,ac,rfl,_,_⟩:=py.cap;obtain ⟨eN,eR,rfl,_,_⟩:=TG.cap;have HA:=aa py;clear py TG ew fL;have hA1:=ae w (.cells (Taf v tp tc sp sc) 68);have hA2:=ae (w.alloc (.cells (Taf v tp tc sp sc) 68)) (.cells (Tae s ap ac eN eR) 114);have hN1:=b9 w (.cells (Taf v tp tc sp sc) 68);have fl:=aa (b9 (w.alloc (.cells (Taf v tp tc sp sc) 68)) (.cells (Tae s ap ac eN eR) 114));have Qe:=aa ((hA2.block _ (aq hN1)).trans hN1);have HB:=aa (hA1.trans (hA2.mono hA1.size));clear hA1 hA2 hN1;rw [cW] at fl;go_enter func80,ntmps80
 go_upto_region 1 with (fail);generalize World.alloc (World.alloc w _) _=W1 at *;generalize hE1:w.heap.size+1=Bs at fl ⊢;generalize hE0:w.heap.size=Bv at Qe ⊢;clear hE1 hE0;go_wp2;go_loopw [5] (fun i wr=>∃ k:Nat,k<=s.Ga.length/\i=.int .i64 k/\Below W1.heap.size W1 wr) (fun i _=>s.Ga.length - (intOf i).toNat)
 exact ⟨0,cg _,rfl,bj _ _⟩;obtain ⟨k,hk,rfl,hB⟩:=hrel;have Mt:=aa hB;replace fl:=Zbk hB fl;replace Qe:=Zbk hB Qe;have fy:=Zbl HB hB;clear hB;have s3:=mi fl.o 3 _ rfl;have x0:=mi Qe.o 0 _ rfl;by_cases hlt:k<s.Ga.length
 ·obtain ⟨r,hr⟩:=aj s.Ga k hlt;have Mr:=aa (HNA.o k r hr);obtain ⟨b,off,us,rfl,_,cX,_,eE,hcv⟩:=HA.o.elem hr;obtain rfl:us=_:=eE;have cT:=fy.o.block b cX;have hbl:=cC cX fy.o.size;obtain ⟨q0,q1,q2⟩:=Mn cT hcv;have s2:=mi fl.o 2 _ rfl;clear hcv hr cT q0 q2;by_cases h3:s.kind=3
  ·replace Mr:=aa (Mr.o (.inl h3));rw [h3] at s2 Mr;clear h3;rw [show Jf 3 k=bq k from rfl] at Mr;exact Ta2
  by_cases h4:s.kind=4
  ·replace Mr:=aa (Mr.o (.inr (.inl h4)));rw [h4] at s2 Mr;clear h4 h3;rw [show Jf 4 k=bq k from rfl] at Mr;exact Ta2
  by_cases h5:s.kind=5
  ·replace Mr:=aa (Mr.o (.inr (.inr (.inl h5))));have hl2:=HL5.o h5;rw [h5] at s2 Mr;clear h5 h4 h3;rw [show Jf 5 k=dH (3 - (k:Int)) from rfl] at Mr;have hw:IntKind.i64.wrap (3 - (k:Int))=3 - (k:Int):=dy _ TcC;go_wp2_with fail;refine (Hf v.name r.on (3 - (k:Int)) wr Yy.o TcC Mr.o).mono ?_;exact Ta7
  by_cases h7:s.kind=7
  ·replace Mr:=aa (Mr.o (.inr (.inr (.inr h7))));rw [h7] at s2 Mr;clear h7 h5 h4 h3;by_cases hk0:k<1
   ·rw [show Jf 7 k=bq k by unfold Jf;rw [bh TcF,bh TcF,aw TcC,show (k:Int)=0 by omega]] at Mr;have ek:((k:Int) == 0)=true:=beq_iff_eq.2 TcC;clear hk0;exact Ta2
   rw [show Jf 7 k=dH (1+(k:Int)) by unfold Jf;rw [bh TcF,bh TcF,bh TcC]] at Mr;have ek:((k:Int) == 0)=false:=beq_eq_false_iff_ne.2 TcC;have hw:IntKind.i64.wrap (1+(k:Int))=1+(k:Int):=dy _ TcC;go_wp2_with fail;refine (Hf v.name r.on (1+(k:Int)) wr Yy.o TcC Mr.o).mono ?_;exact Ta7
  have e3:(s.kind == 3)=false:=beq_eq_false_iff_ne.2 h3;have e4:(s.kind == 4)=false:=beq_eq_false_iff_ne.2 h4;have e5:(s.kind == 5)=false:=beq_eq_false_iff_ne.2 h5;have e7:(s.kind == 7)=false:=beq_eq_false_iff_ne.2 h7;have YF:Hid (∀ n,Below W1.heap.size W1 (wr.drewN n)):=aa fun n=>aT Mt.o n;clear h3 h4 h5 h7 Mt fy fl Qe Mr hbl;go_wp2;go_roundw
  exact ⟨k+1,TcC,TcG,by first | exact YF.o 0 | exact YF.o _⟩;simp [intOf];omega
 clear hk Mt;have s6:=mi fl.o 6 _ rfl;cases Fi:s.log.toList.isEmpty with
 | true =>
  have HP:=aa (I4 v.name.data.toList 1 wr (by simpa using Yy.o) TcC);rw [<- bytes_eta] at HP;go_wp2_with fail;refine HP.o.mono ?_;rintro e w5 ⟨rfl,hb5⟩;have h0:=aq fl.o;replace s6:=(hb5.cell (p:=⟨Bs,6,none⟩) h0).trans s6;have TF:=Zbl fy hb5;clear hb5 h0 HP x0 s3 fl Qe fy;go_wp2;go_ret;exact ⟨rfl,TF.o⟩
 | false =>
  have HP:=aa (Hf v.name s.log 1 wr Yy.o TcC (Ns.o Fi));go_wp2_with fail;refine HP.o.mono ?_;rintro e w5 ⟨rfl,hb5⟩;have h0:=aq fl.o;replace s6:=(hb5.cell (p:=⟨Bs,6,none⟩) h0).trans s6;have TF:=Zbl fy hb5;clear hb5 h0 HP x0 s3 fl Qe fy;go_wp2;go_ret;exact ⟨rfl,TF.o⟩
end Go.Proofs.YtaagglbgohjldaaGreatDoor
