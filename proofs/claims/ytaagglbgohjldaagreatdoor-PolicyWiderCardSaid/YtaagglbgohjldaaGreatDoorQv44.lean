/- Lemmas: RgE, RxA. -/
import Derived.Test.YtaagglbgohjldaaGreatDoorQv43
set_option maxRecDepth 100000
set_option maxHeartbeats 32000000
set_option linter.all false
namespace Go.Proofs.YtaagglbgohjldaaGreatDoor
open Go.Proofs.Tryz
open Go.RowKit Go.Maps Go.Shelf
variable {ok:Nat->Prop}
structure K9 (g:af)(s:aB)(x:eX):Prop where
 ch:(s.chunk != 0)=(x.chunk != 0)
 st:x.stale=false->decide ((0:Int)<(s.stale.length:Int))=false
 lg:x.log=false->s.log.toList.isEmpty=true
 pl:x.pool=false->s.pool.toList.isEmpty=true
 pd:x.pool=false->(s.device != 0)=false
 md:x.mode=false->(s.mode != 0)=false
 dn:x.done=false->(s.done != 0)=false
 p1:x.pool=true->decide (s.device<1)=false
 p2:x.pool=true->decide ((65535:Int)<s.device)=false
 m1:x.mode=true->s.mode=1\/s.mode=2
 d1:x.done=true->decide (s.done<0)=false
 d2:x.done=true->decide (s.length<s.done)=false
theorem Lb {g:af}{s:aB}{x:eX}(hch:fq g.Gd s.chunk x=true)(Fi:(x.log||s.log.toList.isEmpty)=true)(PY:(x.pool||s.pool.toList.isEmpty)=true)(aj1:dP s x=true)(am3:bE s.device 1 65535 x.pool=true)(ae8:bE s.mode 1 2 x.mode=true)(hdone:bE s.done 0 s.length x.done=true):K9 g s x:=by
 unfold bE at am3 ae8 hdone;refine ⟨?_,fun h=>?_,fun h=>by rwa [h,nj] at Fi,fun h=>by rwa [h,nj] at PY,fun h=>?_,fun h=>?_,fun h=>?_,fun h=>?_,fun h=>?_,fun h=>?_,fun h=>?_,fun h=>?_⟩
 ·unfold fq at hch;by_cases h0:x.chunk=0
  ·rw [aw h0,beq_iff_eq] at hch;rw [hch,h0]
  have h1:1<=s.chunk:=by
   rw [bh h0] at hch;split at hch <;> (rw [eh,fk] at hch;exact hch.1)
  rw [bne_iff_ne.2 (show s.chunk≠0 by omega),bne_iff_ne.2 h0]
 ·refine cN fun q=>?_
  unfold dP at aj1;have:=List.all_eq_true.1 aj1 0 (List.mem_range.2 TcC);unfold bR at this;rw [h,Bool.false_and,Bool.false_and,Bool.false_and] at this;cases this
 ·rw [h] at am3;simpa using am3
 ·rw [h] at ae8;simpa using ae8
 ·rw [h] at hdone;simpa using hdone
 ·rw [h] at am3;simp only [ej,eh,fk] at am3;exact cN TcC
 ·rw [h] at am3;simp only [ej,eh,fk] at am3;exact cN TcC
 ·rw [h] at ae8;simp only [ej,eh,fk] at ae8;omega
 ·rw [h] at hdone;simp only [ej,eh,fk] at hdone;exact cN TcC
 rw [h] at hdone;simp only [ej,eh,fk] at hdone;exact cN TcC
theorem KU (g:af)(a:bN)(s:aB)(u:List Value)(st:Int)(w:World)(hv:bC ok w u s)(hf:bJ g.Gd s st=true)(he:1<=g.Gd/\g.Gd<=1024)(hal:s.Ga.length<=1000000)(GF:s.stale.length<=1000000) :
  Calls prog 76 #[.agg (Tad g a),.agg u.toArray,.int .i64 st] w fun e w'=>e=.returned (.bool true)/\Below w.heap.size w w':=by
 obtain ⟨x,hx,hst0,⟨l1,l2⟩,⟨a1,a2⟩,aq8,hch,Fi,PY,aj1,am3,ae8,hdone,hs2,hs4⟩:=DD hf;subst hst0;have HF:=aa (Lb hch Fi PY aj1 am3 ae8 hdone);have RG:=aa (KJ hx Fi aj1);have HCH:=aa hch;have ya:=aa (List.all_eq_true.1 aq8);have HV:=aa hv;have HX:=aa hx;have HS2:=aa hs2;have HS4:=aa hs4;obtain ⟨av,Oz,rfl,py,TG⟩:=hv;obtain ⟨ap,ac,rfl,_,_⟩:=py.cap;obtain ⟨eN,eR,rfl,_,_⟩:=TG.cap;have HA:=aa py;clear hf hch Fi PY aj1 am3 ae8 hdone py TG aq8 hx hs2 hs4;have hA1:=ae w (.cells (Tad g a) 31);have hA2:=ae (w.alloc (.cells (Tad g a) 31)) (.cells (Tae s ap ac eN eR) 114);have hN1:=b9 w (.cells (Tad g a) 31);have lj:=aa (b9 (w.alloc (.cells (Tad g a) 31)) (.cells (Tae s ap ac eN eR) 114));have CN:=aa ((hA2.block _ (aq hN1)).trans hN1);have HB:=aa (hA1.trans (hA2.mono hA1.size));clear hA1 hA2 hN1;rw [cW] at lj;go_enter func76,ntmps76
 go_upto_region 1 with (fail);generalize World.alloc (World.alloc w _) _=W1 at *;generalize hE1:w.heap.size+1=Bs at lj ⊢;generalize hE0:w.heap.size=Bg at CN ⊢;have cU:=HB;clear HB hE1;have s2:=mi lj.o 2 _ rfl;go_wp2_with fail;clear s2;refine (Jv s.kind x W1 HX.o).mono ?_;rintro e w2 ⟨rfl,hb2⟩;unfold Kb;have hA3:=ae w2 (.cells #[.int .i64 x.least,.int .i64 x.greatest,.bool x.F9,.bool (x.chunk != 0),.bool x.stale,.bool x.log,.bool x.pool,.bool x.mode,.bool x.done] 178);have Vs:=aa (b9 w2 (.cells #[.int .i64 x.least,.int .i64 x.greatest,.bool x.F9,.bool (x.chunk != 0),.bool x.stale,.bool x.log,.bool x.pool,.bool x.mode,.bool x.done] 178));have hB23:=hb2.trans (hA3.mono hb2.size);have ay8:=Zbl cU hB23;have nB:=Zbk hB23 lj;have LS:=Zbk hB23 CN;clear hb2 hA3 hB23 cU lj CN hE0;go_upto_region 2 with (fail);generalize World.alloc w2 _=W3 at *;generalize w2.heap.size=Bx at Vs ⊢;have hx:=HX.o;have ax3:=ay8;have au1:=Vs;clear ay8 Vs;rcases pM hx with h | h | h | h | h | h | h | h | h | h <;> rw [h] at hx <;> injection hx with hx <;> subst hx
 all_goals (first | (rcases HF.o.m1 rfl with hm | hm) | skip)
 all_goals
  dsimp only at a1 a2;have F:=HF.o;have f1:=F.ch;simp only [Int.reduceBNe] at f1;have k2:=fj (· == (2:Int)) h;have k4:=fj (· == (4:Int)) h;simp only [Int.reduceBEq] at k2 k4;(first | (have f2:=F.st rfl;have f2':decide (0<s.stale.length)=false:=cN (by have:=of_decide_eq_false f2;omega)) | skip)
  (first | (have f3:=F.lg rfl) | skip)
  (first | (have f4:=F.pl rfl) | skip)
  (first | (have f5:=F.pd rfl) | skip)
  (first | (have f6:=F.md rfl) | skip)
  (first | (have f7:=F.dn rfl) | skip)
  (first | (have p1:=F.p1 rfl;have p2:=F.p2 rfl) | skip)
  (first | (have d1:=F.d1 rfl;have d2:=F.d2 rfl) | skip)
  (first | (have m1:(s.mode != 1)=false:=by (rw [hm];rfl)) | (have m1:(s.mode != 1)=true:=by (rw [hm];rfl);have m2:(s.mode != 2)=false:=by (rw [hm];rfl)) | skip)
  (first | (have HM:=aa hm;clear hm) | skip)
  have t1:0<=s.length:=by omega
  (first | (have r2:s.length.tmod (s.Ga.length:Int)=0:=by (rw [Int.tmod_eq_emod_of_nonneg t1];exact HS2.o h);have r2w:IntKind.i64.wrap (s.length.tmod (s.Ga.length:Int))=0:=by (rw [r2];rfl);have r3:((s.Ga.length:Int) == 0)=false:=beq_eq_false_iff_ne.2 TcC) | skip)
  (first | (have r4:s.length.tmod ((s.Ga.length:Int) - 1)=0:=by (rw [Int.tmod_eq_emod_of_nonneg t1];exact HS4.o h);have r4w:IntKind.i64.wrap (s.length.tmod ((s.Ga.length:Int) - 1))=0:=by (rw [r4];rfl);have r5:((s.Ga.length:Int) - 1 == 0)=false:=beq_eq_false_iff_ne.2 TcC;have r6:IntKind.i64.wrap ((s.Ga.length:Int) - 1)=(s.Ga.length:Int) - 1:=dy _ TcC) | skip)
  (first | (have r2e:(s.length % (s.Ga.length:Int) != 0)=false:=by (rw [HS2.o h];rfl)) | skip)
  (first | (have r4e:(s.length % ((s.Ga.length:Int) - 1) != 0)=false:=by (rw [HS4.o h];rfl)) | skip)
  have HHF:=aa h;clear F h;have c1:decide (s.length<1)=false:=cN (Int.not_lt.2 l1);have c2:decide ((32768:Int)<s.length)=false:=cN (Int.not_lt.2 l2);have c3:=cN (Int.not_lt.2 a1);have c4:=cN (Int.not_lt.2 a2);have sL:=mi nB.o;have GF:=aq nB.o;have e0:=aG GF (sL 0 _ rfl);have e1:=aG GF (sL 1 _ rfl);have e3:=aG GF (sL 3 _ rfl);clear sL GF;have xL:=mi au1.o;simp only [Int.reduceBNe] at xL;have vh:=aq au1.o;have y0:=aG vh (xL 0 _ rfl);have y1:=aG vh (xL 1 _ rfl);clear xL vh;(refine wp_region_quiet_lit ?_;(repeat (go_big_quiet_step ((fail))));(with_reducible refine fR ?_);intro wa ay9;have au2:=dY ay9;clear ay9)
  clear e0 e1 e3 y0 y1;clear c1 c2 c3 c4;have au3:=Zbl ax3 au2;have Tx:=Zbk au2 nB;have au4:=Zbk au2 au1;have Nq:=Zbk au2 LS;clear au2 ax3 nB au1 LS;go_upto_region 4 with (fail);simp only [List.append_eq,List.cons_append,List.nil_append];obtain ⟨e0,e1,e2,e3,e4,e5,e6,e7,e8,e9,e10⟩:=K7 Tx.o;have xL:=mi au4.o;simp only [Int.reduceBNe] at xL;have vh:=aq au4.o;have y0:=aG vh (xL 0 _ rfl);have y1:=aG vh (xL 1 _ rfl);have y2:=aG vh (xL 2 _ rfl);have y3:=aG vh (xL 3 _ rfl);have y4:=aG vh (xL 4 _ rfl);have y5:=aG vh (xL 5 _ rfl);have y6:=aG vh (xL 6 _ rfl);have y7:=aG vh (xL 7 _ rfl);have y8:=aG vh (xL 8 _ rfl);clear xL vh;obtain ⟨z0,z1,z2,z3,z4,z5,z6,z7,z8⟩:=Hr Nq.o;have HVW:=aa fun q:fo=>bC.moves.mv (Mv.of (au3.o.trans ((dQ wa q).mono au3.o.size))) HV.o
  (first | (have HCC:=aa fun q:fo=>Kl g a s _ _ (ext wa q) (HVW.o q) HX.o HCH.o TcF he) | skip)
  have HST:=aa fun q:fo=>IQ s _ (ext wa q) (HVW.o q) hal GF RG.o
  (refine wp_region_quiet_lit ?_;(repeat (go_big_quiet_step ((first | (go_at_call 125;exact iH (HCC.o _)) | (go_at_call 126;exact iH (HST.o _))))));(with_reducible refine fR ?_);intro wb az0;have au5:=dY az0;clear az0)
  clear e0 e1 e2 e3 e4 e5 e6 e7 e8 e9 e10 y0 y1 y2 y3 y4 y5 y6 y7 y8 z0 z1 z2 z3 z4 z5 z6 z7 z8;clear HST HVW;have ax4:=Zbl au3 au5;have au6:=Zbk au5 Tx;have au7:=Zbk au5 au4;have Nr:=Zbk au5 Nq;clear au5 au3 Tx au4 Nq;go_upto_region 6 with (fail);have sL:=mi au6.o;have GF:=aq au6.o;have e1:=aG GF (sL 1 _ rfl);have e8:=aG GF (sL 8 _ rfl);have e9:=aG GF (sL 9 _ rfl);have e10:=aG GF (sL 10 _ rfl);(first | (have hm:=HM.o;rw [hm] at e9;clear hm) | skip)
  clear sL GF;have xL:=mi au7.o;simp only [Int.reduceBNe] at xL;have vh:=aq au7.o;have y6:=aG vh (xL 6 _ rfl);have y7:=aG vh (xL 7 _ rfl);have y8:=aG vh (xL 8 _ rfl);clear xL vh;(refine wp_region_quiet_lit ?_;(repeat (go_big_quiet_step ((fail))));(with_reducible refine fR ?_);intro wc az1;have au8:=dY az1;clear az1)
  clear e1 e8 e9 e10 y6 y7 y8;have aB4:=Zbl ax4 au8;have aw4:=Zbk au8 au6;have az2:=Zbk au8 au7;have RN:=Zbk au8 Nr;clear au8 ax4 au6 au7 Nr;have Tq:=aB4
  repeat (first | go_values | go_skip | go_guarded | go_step | go_upon | go_back)
  go_loopw [9] (fun i wr=>∃ k:Nat,k<=s.Ga.length/\i=.int .i64 k/\Below wc.heap.size wc wr) (fun i _=>s.Ga.length - (intOf i).toNat)
  exact ⟨0,cg _,rfl,bj _ _⟩;obtain ⟨k,hk,rfl,hB⟩:=hrel;have sL:=mi ((hB.block _ (aq aw4.o)).trans aw4.o);have s3:=sL 3 _ rfl;have fy:=Zbl Tq hB;by_cases hlt:k<s.Ga.length
  ·first
   | (exfalso;omega)
   | (
     obtain ⟨r,hr⟩:=aj s.Ga k hlt;have ha:=ya.o r (ct hr);unfold bT at ha;simp only [eh,beq_iff_eq,tG,tz] at ha;obtain ⟨ha1,ha2⟩:=ha;obtain ⟨b,off,us,rfl,_,cX,_,eE,hcv⟩:=HA.o.elem hr;obtain rfl:us=_:=eE;have cT:=fy.o.block b cX;obtain ⟨q0,q1,q2⟩:=Mn cT hcv;rw [ha1] at q0 ha2;(first | (have z0:(r.start != 0)=false:=by simpa using ha2) | skip)
     have x2:=mi ((hB.block _ (aq az2.o)).trans az2.o) 2 _ rfl;have LX:Hid (∀ n,Below wc.heap.size wc (wr.drewN n)):=aa fun n=>aT hB n;clear hcv hr hB sL cT ha1 ha2
     go_upto_region 11 with (fail);go_quiet (fail);clear q0 q1 q2 x2 s3;go_wp2;go_roundw
     exact ⟨k+1,TcC,TcG,LX.o _⟩;simp [intOf];omega)
  have GF:=aq ((hB.block _ (aq aw4.o)).trans aw4.o);have e1:=aG GF (sL 1 _ rfl);have e2:=aG GF (sL 2 _ rfl);have e3:=aG GF (sL 3 _ rfl);clear sL hB GF;go_upto_region 13 with (fail);(refine wp_region_quiet_lit ?_;(repeat (go_big_quiet_step ((fail))));(with_reducible refine fR ?_);intro wd az3;have ao9:=dY az3;clear az3)
  clear e1 e2 e3;have TF:=Zbl fy ao9
  repeat (first | go_values | go_skip | go_guarded | go_step | go_upon | go_back)
  go_ret;exact ⟨rfl,TF.o⟩
def Ho (ok:Nat->Prop)(l:List az)(nm:ByteArray)(w:World)(e:Ending)(w':World):Prop:=∃ (u:List Value) (k:Int),e=.returned (.tuple #[.agg u.toArray,.int .i64 k])/\aO ok w' u ((bH l nm).getD gT)/\decide (k<0)=!(bH l nm).isSome/\Below w.heap.size w w'
theorem TbT {p:Prop}(h:p:=by
 clear pD;go_wp2;go_round;exact ⟨k+1,TcC,TcG,HNN.o⟩;simp [intOf];omega):p:=h
theorem TbL {p:Prop}(h:p:=by
 by_cases hjk:j=k
 ·subst hjk;rw [HD.o] at hD;injection hD with hD;rw [<- hD];exact pD
 exact Ty.o j D TcC hD):p:=h
theorem Tb1 {p:Prop}(h:p:=by
 exact (HL.o _ _ _ (HL.o _ _ _ (HL.o _ _ _ (HL.o _ _ _ (HL.o _ _ _ (HL.o _ _ _ (HL.o _ _ _ Tm.o)))))))):p:=h
theorem TeI {p:Prop}(h:p:=by simp [results,Tryz.results95,go_sem,r0,r1,r2,r3,r4,r5,r6]):p:=h
theorem GK (g:af)(a:bN)(nm:ByteArray)(w:World)(hr:ck aO 7 ok w [.slice a.dp g.Gb.length a.dc] g.Gb)(hd:g.Gb.length<=1000000) :
  Calls prog 95 #[.agg (Tad g a),.string nm] w (Ho ok g.Gb nm w):=by
 have HR:=aa hr;clear hr;have hA1:=ae w (.cells (Tad g a) 31);have hN1:=b9 w (.cells (Tad g a) 31);have hA2:=ae (w.alloc (.cells (Tad g a) 31)) (.cells Taj 51);have hN2:=b9 (w.alloc (.cells (Tad g a) 31)) (.cells Taj 51);rw [cW] at hN2;have Mj:=aa ((hA2.block _ (aq hN1)).trans hN1);have yi:=aa hN2;have cU:=aa (hA1.trans (hA2.mono hA1.size));clear hA1 hA2 hN1 hN2;go_enter func95,ntmps95
 go_upto_region 2 with (fail);generalize hW1:World.alloc (World.alloc w _) _=W1 at *;generalize Rz:w.heap.size+1=Br at *;generalize LY:w.heap.size=Bg at *;have Tm:Hid (Below w.heap.size w W1):=aa Td6;clear hW1 cU;have g6:=cr Mj.o 6 _ rfl;have rL:=cr yi.o;obtain ⟨r0,r1,r2,r3,r4,r5,r6⟩:=se rL;have rf:=sr yi.o;clear rL;have hL:∀ (V:World) (o:Nat) (z:Value),Below w.heap.size w V->Below w.heap.size w (V.setCell ⟨Br,o,none⟩ z):=fun V o z q=>q.setCell (p:=⟨Br,o,none⟩) (by show w.heap.size<=Br;omega) z;have HL:=aa hL;clear hL
 go_loop [6] (fun i=>∃ k:Nat,k<=g.Gb.length/\i=.int .i64 k/\∀ (j:Nat) (D:az),j<k->g.Gb[j]?=some D->¬ D.name=nm) (fun i=>g.Gb.length - (intOf i).toNat)
 exact ⟨0,cg _,rfl,fun j D hj=>by omega⟩;obtain ⟨k,hk,rfl,hno⟩:=hrel;have Ty:=aa hno;clear hno;by_cases hlt:k<g.Gb.length
 ·obtain ⟨d,hv⟩:=aj g.Gb k hlt;obtain ⟨b,off,u,hsp,gR,cX,ez,sA,hcv⟩:=HR.o.elem hv;have My:=aa sA;obtain ⟨tv,rfl,ew⟩:=sA;obtain ⟨tp,tc,rfl,_,_⟩:=ew.cap;clear ew;have cT:=Tm.o.block b cX;rw [hsp] at g6;clear hsp;obtain ⟨q0,q1,q2,q3,q4,q5,q6⟩:=OD cT hcv;have HD:=aa hv;clear hv;clear hcv ez cT;by_cases pD:d.name=nm
  ·have e1:(d.name.toList == nm.toList)=true:=by rw [pD];simp
   have CM:Hid (bH g.Gb nm=some d):=aa (pR Ty.o HD.o pD);have Mr:=aa pD;clear pD;have Zw:Hid (∀ wf:World,Below w.heap.size w wf->Ho ok g.Gb nm w (.returned (.tuple #[.agg (Tah d tp tc),.int .i64 k])) wf):=aa fun wf hb =>
    ⟨[.string d.name,.int .u64 d.id,.int .i64 d.first,.int .i64 d.Gc,.bool d.closed,.bool d.missing,.slice tp d.tags.length tc],k,rfl,by rw [CM.o];exact aO.moves.mv ⟨hb.size,fun b hb' ho=>⟨ho,hb.block b hb'⟩⟩ My.o,by rw [CM.o];simp,hb⟩
   go_wp2;refine eC (v:=.tuple #[.agg (Tah d tp tc),.int .i64 k]) TeI rfl (Zw.o _ ?_);exact Tb1
  have e1:=jI pD;have HNN:Hid (∀ (j:Nat) (D:az),j<k+1->g.Gb[j]?=some D->¬ D.name=nm):=aa fun j D hj hD=>by
   exact TbL
  exact TbT
 obtain rfl:k=g.Gb.length:=by omega
 have CM:Hid (bH g.Gb nm=none):=aa (ui Ty.o);have Zw:Hid (∀ wf:World,Below w.heap.size w wf->Ho ok g.Gb nm w (.returned (.tuple #[.agg Taj,.int .i64 (-1)])) wf):=aa fun wf hb =>
  ⟨[.string ⟨#[]⟩,.int .u64 0,.int .i64 0,.int .i64 0,.bool false,.bool false,.slice none 0 0],-1,rfl,by rw [CM.o];exact ⟨_,rfl,ck.nil⟩,TdA,hb⟩
 go_wp2;refine eC (v:=.tuple #[.agg Taj,.int .i64 (-1)]) TeI rfl (Zw.o _ ?_);exact Tb1
def al5 (ok:Nat->Prop)(l:List ay)(nm:ByteArray)(w:World)(e:Ending)(w':World):Prop:=∃ (u:List Value) (k:Int),e=.returned (.tuple #[.agg u.toArray,.int .i64 k])/\aN ok w' u ((aM l nm).getD eY)/\decide (k<0)=!(aM l nm).isSome/\Below w.heap.size w w'
theorem Tcc {p:Prop}(h:p:=by
 exact (HL.o _ _ _ (HL.o _ _ _ (HL.o _ _ _ (HL.o _ _ _ (HL.o _ _ _ (HL.o _ _ _ Tm.o))))))):p:=h
theorem TeK {p:Prop}(h:p:=by simp [results,Tryz.results37,go_sem,r0,r1,r2,r3,r4,r5]):p:=h
theorem aj7 (g:af)(a:bN)(nm:ByteArray)(w:World)(hr:ck aN 6 ok w [.slice a.vp g.F9.length a.vc] g.F9)(hd:g.F9.length<=1000000) :
  Calls prog 37 #[.agg (Tad g a),.string nm] w (al5 ok g.F9 nm w):=by
 have HR:=aa hr;clear hr;have hA1:=ae w (.cells (Tad g a) 31);have hN1:=b9 w (.cells (Tad g a) 31);have hA2:=ae (w.alloc (.cells (Tad g a) 31)) (.cells Tai 68);have hN2:=b9 (w.alloc (.cells (Tad g a) 31)) (.cells Tai 68);rw [cW] at hN2;have Mj:=aa ((hA2.block _ (aq hN1)).trans hN1);have yi:=aa hN2;have cU:=aa (hA1.trans (hA2.mono hA1.size));clear hA1 hA2 hN1 hN2;go_enter func37,ntmps37
 go_upto_region 2 with (fail);generalize hW1:World.alloc (World.alloc w _) _=W1 at *;generalize Rz:w.heap.size+1=Br at *;generalize LY:w.heap.size=Bg at *;have Tm:Hid (Below w.heap.size w W1):=aa Td6;clear hW1 cU;have g6:=cr Mj.o 7 _ rfl;have rL:=cr yi.o;obtain ⟨r0,r1,r2,r3,r4,r5⟩:=sv6 rL;have rf:=sr yi.o;clear rL;have hL:∀ (V:World) (o:Nat) (z:Value),Below w.heap.size w V->Below w.heap.size w (V.setCell ⟨Br,o,none⟩ z):=fun V o z q=>q.setCell (p:=⟨Br,o,none⟩) (by show w.heap.size<=Br;omega) z;have HL:=aa hL;clear hL
 go_loop [6] (fun i=>∃ k:Nat,k<=g.F9.length/\i=.int .i64 k/\∀ (j:Nat) (D:ay),j<k->g.F9[j]?=some D->¬ D.name=nm) (fun i=>g.F9.length - (intOf i).toNat)
 exact ⟨0,cg _,rfl,fun j D hj=>by omega⟩;obtain ⟨k,hk,rfl,hno⟩:=hrel;have Ty:=aa hno;clear hno;by_cases hlt:k<g.F9.length
 ·obtain ⟨d,hv⟩:=aj g.F9 k hlt;obtain ⟨b,off,u,hsp,gR,cX,ez,sA,hcv⟩:=HR.o.elem hv;have My:=aa sA;obtain ⟨tv,sv,rfl,ew,fL⟩:=sA;obtain ⟨tp,tc,rfl,_,_⟩:=ew.cap;obtain ⟨sp,sc,rfl,_,_⟩:=fL.cap;clear ew fL;have cT:=Tm.o.block b cX;rw [hsp] at g6;clear hsp;obtain ⟨q0,q1,q2,q3,q4,q5⟩:=NG cT hcv;have HD:=aa hv;clear hv;clear hcv ez cT;by_cases pD:d.name=nm
  ·have e1:(d.name.toList == nm.toList)=true:=by rw [pD];simp
   have CM:Hid (aM g.F9 nm=some d):=aa (CW Ty.o HD.o pD);have Mr:=aa pD;clear pD;have Zw:Hid (∀ wf:World,Below w.heap.size w wf->al5 ok g.F9 nm w (.returned (.tuple #[.agg (Taf d tp tc sp sc),.int .i64 k])) wf):=aa fun wf hb =>
    ⟨[.string d.name,.int .u64 d.id,.bool d.hidden,.bool d.ro,.slice tp d.tags.length tc,.slice sp d.Gf.length sc],k,rfl,by rw [CM.o];exact aN.moves.mv ⟨hb.size,fun b hb' ho=>⟨ho,hb.block b hb'⟩⟩ My.o,by rw [CM.o];simp,hb⟩
   go_wp2;refine eC (v:=.tuple #[.agg (Taf d tp tc sp sc),.int .i64 k]) TeK rfl (Zw.o _ ?_);exact Tcc
  have e1:=jI pD;have HNN:Hid (∀ (j:Nat) (D:ay),j<k+1->g.F9[j]?=some D->¬ D.name=nm):=aa fun j D hj hD=>by
   exact TbL
  exact TbT
 obtain rfl:k=g.F9.length:=by omega
 have CM:Hid (aM g.F9 nm=none):=aa (yV Ty.o);have Zw:Hid (∀ wf:World,Below w.heap.size w wf->al5 ok g.F9 nm w (.returned (.tuple #[.agg Tai,.int .i64 (-1)])) wf):=aa fun wf hb =>
  ⟨[.string ⟨#[]⟩,.int .u64 0,.bool false,.bool false,.slice none 0 0,.slice none 0 0],-1,rfl,TeV,TdA,hb⟩
 go_wp2;refine eC (v:=.tuple #[.agg Tai,.int .i64 (-1)]) TeK rfl (Zw.o _ ?_);exact Tcc
end Go.Proofs.YtaagglbgohjldaaGreatDoor
