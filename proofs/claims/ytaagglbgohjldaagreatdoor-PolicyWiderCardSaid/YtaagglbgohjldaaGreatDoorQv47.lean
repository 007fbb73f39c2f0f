/- Lemmas: RgL, RgO, RgU. -/
import Derived.Test.YtaagglbgohjldaaGreatDoorQv45
import Derived.Test.YtaagglbgohjldaaGreatDoorQv27
set_option maxRecDepth 100000
set_option maxHeartbeats 32000000
set_option linter.all false
namespace Go.Proofs.YtaagglbgohjldaaGreatDoor
open Go.Proofs.Tryz
open Go.RowKit Go.Maps Go.Shelf
variable {ok:Nat->Prop}
theorem Ia {a b:Int}(h0:0<=a)(h1:a<=10000000)(h2:1<=b)(h3:b<=1024):0<=a*b/\a*b<=10240000000:=by
 have:=tW h1 h3 TcC (show (0:Int)<=10000000 by omega);exact ⟨oA h0 TcC,TcC⟩
theorem JP {g:af}{s:aB}(h:CX g s=true) :
  (s.kind=3->(∀ a∈s.Ga,dO g a.on=s.length)/\(s.log.toList.isEmpty=false->1+(BZ g s+63) / 64<=dO g s.log*g.Gd)) /\
  (s.kind=4->(∀ a∈s.Ga,dO g a.on=dO g (MJ s 0))/\s.length / ((s.Ga.length:Int) - 1)*g.Gd+16<=dO g (MJ s 0)*g.Gd) /\
  (s.kind=5->dO g (MJ s 1)=s.length)/\(s.kind=7->dO g (MJ s 0)=s.length):=by
 unfold CX at h;refine ⟨fun k=>?_,fun k=>?_,fun k=>?_,fun k=>?_⟩
 ·rw [aw k,eh] at h;refine ⟨fun a ha=>by simpa using List.all_eq_true.1 h.1 a ha,fun hl=>?_⟩;have:=h.2;unfold Fe at this;rw [hl,nj,fk] at this;rwa [show BZ g s+64 - 1=BZ g s+63 by omega] at this
 ·rw [bh TcC,aw k,eh] at h;refine ⟨fun a ha=>by simpa using List.all_eq_true.1 h.1 a ha,?_⟩;have:=h.2;unfold ER at this;simpa using this
 ·rw [bh TcC,bh TcC,aw k] at h;simpa using h
 rw [bh TcC,bh TcC,bh TcC,aw k] at h;simpa using h
theorem Ta0 {p:Prop}(h:p:=by
 clear s2;obtain ⟨g0,g1,g2,g3,g4,g5,g6,g7,g8⟩:=Hr Mk.o;have HGQ:=aa fun q:fo=>(ck.moves aN.moves).mv (Mv.of (dQ W1 q)) Lm.o.F9;have sL:=mi fl.o;have GF:=aq fl.o;have e1:=aG GF (sL 1 _ rfl);have e3:=aG GF (sL 3 _ rfl);clear sL GF
 (refine aU TcE TcE ?_;(repeat (go_big_quiet_step ((go_at_call 129;exact iH (Ar g a _ _ (HGQ.o _) hz)))));(with_reducible refine fR ?_);intro wqc ia;have av7:=dY ia;clear ia)
 have TF:=Zbl HB av7;clear av7 g0 g1 g2 g3 g4 g5 g6 g7 g8 e1 e3 q1 hq;go_wp2;go_ret;exact ⟨rfl,TF.o⟩):p:=h
theorem Kk (g:af)(a:bN)(s:aB)(u:List Value)(w:World)(hv:bC ok w u s)(hg:dN ok w g a)(hz:JT g)(Li:Cu g)(hx:1<=g.Gd/\g.Gd<=1024)(hf:Ah s)(he:CX g s=true) :
  Calls prog 82 #[.agg (Tad g a),.agg u.toArray] w fun e w'=>e=.returned (.bool true)/\Below w.heap.size w w':=by
 obtain ⟨hp3,hp4,hp5,hp7⟩:=JP he;have Uh:=aa hp3;have V3:=aa hp4;have YB:=aa hp5;have HP7:=aa hp7;have hl0:=hf.fm.l0;have hl1:=hf.fm.l1;have LB:=hf.fm.ar;have H53:=aa hf.fm.p5;have H73:=aa hf.fm.p7;have HC3:=aa hf.c3;have HA4:=aa hf.a4;have Qc:=aa Li;obtain ⟨hx1,hx2⟩:=hx;clear he hp3 hp4 hp5 hp7 hf Li;obtain ⟨av,Oz,rfl,py,TG⟩:=hv;obtain ⟨ap,ac,rfl,_,_⟩:=py.cap;obtain ⟨eN,eR,rfl,_,_⟩:=TG.cap;have HA:=aa py;clear py TG;have hA1:=ae w (.cells (Tad g a) 31);have hA2:=ae (w.alloc (.cells (Tad g a) 31)) (.cells (Tae s ap ac eN eR) 114);have hN1:=b9 w (.cells (Tad g a) 31);have fl:=aa (b9 (w.alloc (.cells (Tad g a) 31)) (.cells (Tae s ap ac eN eR) 114));have Mk:=aa ((hA2.block _ (aq hN1)).trans hN1);have HB:=aa (hA1.trans (hA2.mono hA1.size));have Lm:=aa (hg.mv (Mv.of HB.o));clear hA1 hA2 hN1 hg;rw [cW] at fl;go_enter func82,ntmps82
 go_upto_region 1 with (fail);generalize World.alloc (World.alloc w _) _=W1 at *;generalize hE1:w.heap.size+1=Bs at fl ⊢;generalize hE0:w.heap.size=Bg at Mk ⊢;clear hE1 hE0;have s2:=mi fl.o 2 _ rfl;by_cases h3:s.kind=3
 ·obtain ⟨az7,OX⟩:=Uh.o h3;have Qb:=aa az7;have HLG:=aa OX;have hc:=HC3.o h3;have hc1:=hc.1;have hc2:=hc.2;rw [h3] at s2;clear h3 az7 OX hc;go_upto_region 3 with (fail);clear s2;go_wp2;go_loopw [5] (fun i wr=>∃ k:Nat,k<=s.Ga.length/\i=.int .i64 k/\Below W1.heap.size W1 wr) (fun i _=>s.Ga.length - (intOf i).toNat)
  exact ⟨0,cg _,rfl,bj _ _⟩;obtain ⟨k,hk,rfl,hB⟩:=hrel;have Mt:=aa hB;have ap2:=fl;have Ml:=Mk;have ap3:=Lm;replace fl:=Zbk hB fl;replace Mk:=Zbk hB Mk;replace Lm:=aa (Lm.o.mv (Mv.of hB));have fy:=Zbl HB hB;clear hB ap2 Ml ap3;have s3:=mi fl.o 3 _ rfl;by_cases hlt:k<s.Ga.length
  ·obtain ⟨r,hr⟩:=aj s.Ga k hlt;have hrm:=ct hr;obtain ⟨b,off,us,rfl,_,cX,_,eE,hcv⟩:=HA.o.elem hr;obtain rfl:us=_:=eE;have cT:=fy.o.block b cX;have hbl:=cC cX fy.o.size;obtain ⟨q0,q1,q2⟩:=Mn cT hcv;clear hcv hr cT;have hq:(dO g r.on != s.length)=false:=by rw [Qb.o r hrm];simp
   go_upto_region 6 with (fail);clear s3;obtain ⟨g0,g1,g2,g3,g4,g5,g6,g7,g8⟩:=Hr Mk.o;have HGQ:=aa fun q:fo=>(ck.moves aN.moves).mv (Mv.of (dQ wr q)) Lm.o.F9;have sL:=mi fl.o;have GF:=aq fl.o;have e1:=aG GF (sL 1 _ rfl);have e3:=aG GF (sL 3 _ rfl);replace q1:=aG hbl q1;clear sL GF hrm q0 q2
   (refine aU TcE TcE ?_;(repeat (go_big_quiet_step ((go_at_call 129;exact iH (Ar g a _ _ (HGQ.o _) hz)))));(with_reducible refine fR ?_);intro wqa ia;have an7:=dY ia;clear ia)
   have YF:=Zbl Mt an7;clear an7 g0 g1 g2 g3 g4 g5 g6 g7 g8 e1 e3 q1 hq Mt Mk fl Lm fy hbl;go_wp2;go_roundw;exact ⟨k+1,TcC,TcG,YF.o⟩;simp [intOf];omega
  clear hk Mt;have m0:=Ia (a:=s.length) (b:=g.Gd) TcC TcC hx1 hx2;have w1:IntKind.i64.wrap (s.length*g.Gd)=s.length*g.Gd:=dy _ TcC;have w2:IntKind.i64.wrap (s.length*g.Gd+s.chunk)=s.length*g.Gd+s.chunk:=dy _ TcC;have w3:IntKind.i64.wrap (s.length*g.Gd+s.chunk - 1)=s.length*g.Gd+s.chunk - 1:=dy _ TcC;have r0:0<=BZ g s:=lz TcC TcC;have r1:BZ g s<=s.length*g.Gd+s.chunk - 1:=mS _ TcC;have w4:(s.length*g.Gd+s.chunk - 1).tdiv s.chunk=BZ g s:=CC TcC;have w5:IntKind.i64.wrap (BZ g s)=BZ g s:=dy _ TcC;have w6:(s.chunk == 0)=false:=beq_eq_false_iff_ne.2 TcC;have s1:=mi fl.o 1 _ rfl;have s4:=mi fl.o 4 _ rfl;have g3:=mi Mk.o 3 _ rfl;go_upto_region 9 with (fail);clear s1 s3 s4 g3 w1 w2 w3 w4 w5 w6;have r2:BZ g s<=10240001024:=by omega
  clear m0 r1;generalize hR:BZ g s=R at *;cases Fi:s.log.toList.isEmpty with
  | true =>
   have e6:=aG (aq fl.o) (mi fl.o 6 _ rfl);(refine aU TcE TcE ?_;(repeat (go_big_quiet_step ((fail))));(with_reducible refine fR ?_);intro wqb ia;have aq7:=dY ia;clear ia)
   have TF:=Zbl fy aq7;clear aq7 e6;go_wp2;go_ret;exact ⟨rfl,TF.o⟩
  | false =>
   have OX:=HLG.o Fi;have hll:=Qc.o s.log;have m1:=Ia (a:=dO g s.log) (b:=g.Gd) TcC TcC hx1 hx2;have w1:IntKind.i64.wrap (dO g s.log*g.Gd)=dO g s.log*g.Gd:=dy _ TcC;have w2:IntKind.i64.wrap (R+63)=R+63:=dy _ TcC;have d0:0<=(R+63) / 64:=lz TcC TcC;have d1:(R+63) / 64<=R+63:=mS _ TcC;have w3:(R+63).tdiv 64=(R+63) / 64:=CC TcC;have w4:IntKind.i64.wrap ((R+63) / 64)=(R+63) / 64:=dy _ TcC;have w5:IntKind.i64.wrap (1+(R+63) / 64)=1+(R+63) / 64:=dy _ TcC;have w6:decide (1+(R+63) / 64<=dO g s.log*g.Gd)=true:=eA OX;obtain ⟨g0,g1,g2,g3,g4,g5,g6,g7,g8⟩:=Hr Mk.o;have HGQ:=aa fun q:fo=>(ck.moves aN.moves).mv (Mv.of (dQ wr q)) Lm.o.F9;have sL:=mi fl.o;have GF:=aq fl.o;have e6:=aG GF (sL 6 _ rfl);clear sL GF OX hll m1 d0 d1
   (refine aU TcE TcE ?_;(repeat (go_big_quiet_step ((go_at_call 129;exact iH (Ar g a _ _ (HGQ.o _) hz)))));(with_reducible refine fR ?_);intro wqb ia;have aq7:=dY ia;clear ia)
   have TF:=Zbl fy aq7;clear aq7 g0 g1 g2 g3 g4 g5 g6 g7 g8 e6 w1 w2 w3 w4 w5 w6;go_wp2;go_ret;exact ⟨rfl,TF.o⟩
 by_cases h4:s.kind=4
 ·obtain ⟨az8,hpb⟩:=V3.o h4;have Qb:=aa az8;have ha3:=HA4.o h4;rw [h4] at s2;clear h4 h3 az8;obtain ⟨r0,hr0⟩:=aj s.Ga 0 TcC;have ho0:MJ s 0=r0.on:=by unfold MJ;rw [hr0];rfl
  rw [ho0] at Qb hpb;obtain ⟨b0,off0,us0,hsp0,_,aD3,_,aB7,hcv0⟩:=HA.o.elem hr0;obtain rfl:us0=_:=aB7;have HQ0:=aa (hcv0 1 _ rfl);have aB8:=aa hsp0;clear hcv0 hsp0 hr0 ho0;go_upto_region 11 with (fail);clear s2;go_wp2;go_loopw [7] (fun i wr=>∃ k:Nat,k<=s.Ga.length/\i=.int .i64 k/\Below W1.heap.size W1 wr) (fun i _=>s.Ga.length - (intOf i).toNat)
  exact ⟨0,cg _,rfl,bj _ _⟩;obtain ⟨k,hk,rfl,hB⟩:=hrel;have Mt:=aa hB;have ap2:=fl;have Ml:=Mk;have ap3:=Lm;replace fl:=Zbk hB fl;replace Mk:=Zbk hB Mk;replace Lm:=aa (Lm.o.mv (Mv.of hB));have fy:=Zbl HB hB;clear hB ap2 Ml ap3;have s3:=mi fl.o 3 _ rfl;by_cases hlt:k<s.Ga.length
  ·obtain ⟨r,hr⟩:=aj s.Ga k hlt;have hrm:=ct hr;obtain ⟨b,off,us,rfl,_,cX,_,eE,hcv⟩:=HA.o.elem hr;obtain rfl:us=_:=eE;have cT:=fy.o.block b cX;have hbl:=cC cX fy.o.size;obtain ⟨q0,q1,q2⟩:=Mn cT hcv;clear hcv hr cT;have hq:(dO g r.on != dO g r0.on)=false:=by rw [Qb.o r hrm];simp
   have heq:dO g r.on=dO g r0.on:=Qb.o r hrm;have TD:=aB8.o;simp only [Option.some.injEq,Addr.mk.injEq,and_true] at TD;obtain ⟨rfl,rfl⟩:=TD;have q00:=(cd (a:=⟨b,off+0*3+1,none⟩) (fy.o.block b cX)).trans HQ0.o;rw [Nat.zero_mul,fg] at q00;have h0l:0<s.Ga.length:=by omega
   go_upto_region 14 with (fail);clear s3;obtain ⟨g0,g1,g2,g3,g4,g5,g6,g7,g8⟩:=Hr Mk.o;have HGQ:=aa fun q:fo=>(ck.moves aN.moves).mv (Mv.of (dQ wr q)) Lm.o.F9;have sL:=mi fl.o;have GF:=aq fl.o;have e3:=aG GF (sL 3 _ rfl);replace q1:=aG hbl q1;clear sL GF hrm q0 q2
   (refine aU TcE TcE ?_;(repeat (go_big_quiet_step ((go_at_call 129;exact iH (Ar g a _ _ (HGQ.o _) hz)))));(with_reducible refine fR ?_);intro wqa ia;have an7:=dY ia;clear ia)
   have h0g:=aq Mk.o;have h0s:=aq fl.o;replace Mk:=aa ((an7.block _ h0g).trans Mk.o);replace fl:=aa ((an7.block _ h0s).trans fl.o);replace Lm:=aa (Lm.o.mv (Mv.of an7));replace q00:=(an7.cell (p:=⟨b,off+1,none⟩) hbl).trans q00;replace hbl:=cC hbl an7.size;have YF:=Zbl Mt an7;clear an7 g0 g1 g2 g3 g4 g5 g6 g7 g8 e3 q1 Mt fy HGQ h0g h0s;go_upto_region 15 with (fail);rw [heq] at hq ⊢;obtain ⟨g0,g1,g2,g3,g4,g5,g6,g7,g8⟩:=Hr Mk.o;have HGQ:=aa fun q:fo=>(ck.moves aN.moves).mv (Mv.of (dQ wqa q)) Lm.o.F9;have sL:=mi fl.o;have GF:=aq fl.o;have e1:=aG GF (sL 1 _ rfl);have e3:=aG GF (sL 3 _ rfl);replace q00:=aG hbl q00;have hll:=Qc.o r0.on;have m1:=Ia (a:=dO g r0.on) (b:=g.Gd) TcC TcC hx1 hx2;have w1:IntKind.i64.wrap (dO g r0.on*g.Gd)=dO g r0.on*g.Gd:=dy _ TcC;have w2:IntKind.i64.wrap ((s.Ga.length:Int) - 1)=(s.Ga.length:Int) - 1:=dy _ TcC;have w3:((s.Ga.length:Int) - 1 == 0)=false:=beq_eq_false_iff_ne.2 TcC;have d0:0<=s.length / ((s.Ga.length:Int) - 1):=lz TcC TcC;have d1:s.length / ((s.Ga.length:Int) - 1)<=s.length:=mS _ TcC;have w4:s.length.tdiv ((s.Ga.length:Int) - 1)=s.length / ((s.Ga.length:Int) - 1):=CC TcC;generalize s.length / ((s.Ga.length:Int) - 1)=D at *;have w5:IntKind.i64.wrap D=D:=dy _ TcC;have m2:=Ia (a:=D) (b:=g.Gd) d0 TcC hx1 hx2;have w6:IntKind.i64.wrap (D*g.Gd)=D*g.Gd:=dy _ TcC;have w7:IntKind.i64.wrap (D*g.Gd+16)=D*g.Gd+16:=dy _ TcC;have w8:decide (dO g r0.on*g.Gd<D*g.Gd+16)=false:=cN TcC;clear sL GF hll m1 m2 d0 d1
   (refine aU TcE TcE ?_;(repeat (go_big_quiet_step ((go_at_call 129;exact iH (Ar g a _ _ (HGQ.o _) hz)))));(with_reducible refine fR ?_);intro wqb ia;have aq7:=dY ia;clear ia)
   have HBO:=Zbl YF aq7;clear aq7 g0 g1 g2 g3 g4 g5 g6 g7 g8 e1 e3 q00 w1 w2 w3 w4 w5 w6 w7 w8 hq YF Mk fl Lm hbl HGQ;go_wp2;go_roundw;exact ⟨k+1,TcC,TcG,HBO.o⟩;simp [intOf];omega
  clear hk Mt;go_wp2;go_ret;exact ⟨rfl,fy.o⟩
 by_cases h5:s.kind=5
 ·have hq:(dO g (MJ s 1) == s.length)=true:=by rw [YB.o h5];simp
  have hl:=H53.o h5;rw [h5] at s2;clear h5 h3 h4;obtain ⟨r,hr⟩:=aj s.Ga 1 TcC;have ho:MJ s 1=r.on:=by unfold MJ;rw [hr];rfl
  rw [ho] at hq;obtain ⟨b,off,us,rfl,_,cX,_,eE,hcv⟩:=HA.o.elem hr;obtain rfl:us=_:=eE;have q1:=aG (cC cX HB.o.size) ((cd (a:=⟨b,off+1*3+1,none⟩) (HB.o.block b cX)).trans (hcv 1 _ rfl));rw [Nat.one_mul] at q1;have hil:1<s.Ga.length:=by omega
  clear hcv hr ho;go_upto_region 18 with (fail);exact Ta0
 by_cases h7:s.kind=7
 ·have hq:(dO g (MJ s 0) == s.length)=true:=by rw [HP7.o h7];simp
  have hl:=H73.o h7;rw [h7] at s2;clear h7 h3 h4 h5;obtain ⟨r,hr⟩:=aj s.Ga 0 TcC;have ho:MJ s 0=r.on:=by unfold MJ;rw [hr];rfl
  rw [ho] at hq;obtain ⟨b,off,us,rfl,_,cX,_,eE,hcv⟩:=HA.o.elem hr;obtain rfl:us=_:=eE;have q1:=aG (cC cX HB.o.size) ((cd (a:=⟨b,off+0*3+1,none⟩) (HB.o.block b cX)).trans (hcv 1 _ rfl));rw [Nat.zero_mul,fg] at q1;have hil:0<s.Ga.length:=by omega
  clear hcv hr ho;go_upto_region 20 with (fail);exact Ta0
 have e3:(s.kind == 3)=false:=beq_eq_false_iff_ne.2 h3;have e4:(s.kind == 4)=false:=beq_eq_false_iff_ne.2 h4;have e5:(s.kind == 5)=false:=beq_eq_false_iff_ne.2 h5;have e7:(s.kind == 7)=false:=beq_eq_false_iff_ne.2 h7;clear h3 h4 h5 h7;exact Tco
theorem JA {P:Program}{md:Region.Mode}{ops:Array Oper}{Q:Exit->Act->World->Prop}{S:World->Prop}{N:Nat->Bool}{i j:Nat}{o o':Oper}{fuel:Nat}{listed:Array Bool}{a:Act}{w:World}(hi:ops[i]?=some o)(hw:Region.wanted o (yielded ops a.tmps)=true)(hj:ops[j]?=some o')(hw':Region.wanted o' (yielded ops a.tmps)=true)(hr:Region.ready md ops listed=[i,j])
  (h1:∀ K:Act->World->Prop,Hid (∀ a' w',S w'->bG P md ops Q S N fuel (listed.setIfInBounds i true) a' w'->K a' w')->o.wp P a w K Q)
  (h2:∀ K:Act->World->Prop,Hid (∀ a' w',S w'->bG P md ops Q S N fuel (listed.setIfInBounds j true) a' w'->K a' w')->o'.wp P a w K Q):bG P md ops Q S N (fuel+1) listed a w:=by
 refine ⟨fun h0=>Tdi,fun k hk=>?_⟩;rw [hr] at hk;simp only [dr,cY,dg] at hk;rcases hk with rfl | rfl
 ·exact Tb6
 unfold wpOp;simp only [hj,hw',ej];exact .inl (h2 _ (aa fun a' w' q1 q2=>⟨fun _=>q1,q2⟩))
theorem Ie (w:World)(s n:Int):xo (w.alloc (.cells #[.int .i64 s,.int .i64 n] 55)) (.slice (some w.heap.size) 1 1) [(s,n)]:=by
 have hN:=b9 w (.cells #[.int .i64 s,.int .i64 n] 55);refine ⟨_,1,rfl,bk _,TcC,fun _=>⟨w.heap.size,0,rfl,TcD,fun i p hp=>?_⟩⟩;cases i with
 | zero =>
  have hp:(s,n)=p:=by simpa using hp
  subst hp;exact ⟨mi (l:=[.int .i64 s,.int .i64 n]) hN 0 _ rfl,mi (l:=[.int .i64 s,.int .i64 n]) hN 1 _ rfl⟩
 | succ i=>simp at hp
theorem KF {s1 n1 s2 n2:Int}{s:List (Int × Int)}(hs:iE s (fun n=>GN 2 (kO [(s1,n1)] n) (kO [(s2,n2)] n)=true))(hd:s2+n2<=s1):s=[] :=
 hs.eq (y:=[]) (T:=fun _=>False) ⟨yP,fun n=>⟨fun q=>(jd n q).elim,fun q=>q.elim⟩⟩ fun n=>by
  have e:GN 2 (kO [(s1,n1)] n) (kO [(s2,n2)] n)=(kO [(s1,n1)] n&&kO [(s2,n2)] n):=rfl;rw [e,eh,iff_false];rintro ⟨h1,h2⟩;simp only [kO,List.any_cons,List.any_nil,Bool.or_false,eh,fk] at h1 h2;omega
noncomputable def La (n:Nat):Code:=((Tryz.f83.body.bind (kX n)).getD .skip)
theorem TaY {p:Prop}(h:p:=by
 refine hK.o _ _ (HS.o _ hb3) ?_;clear hK K PX;have hsz3:=hb3.size;generalize hW3:World.alloc W2 _=W3 at *;clear hW3;have HCC:=aa (HC.o W3 _ _ hb3 hr1 hr2);refine Gr (i:=24) rfl rfl TcE (fun K hK=>?_);go_simp;refine HCC.o.mono ?_;rintro e w4 ⟨p,c,rfl,hb4⟩;have hb5:Below w.heap.size w w4:=hb3.trans (hb4.mono hsz3);refine hK.o _ _ (HS.o _ hb5) ?_;clear hK K;have hHeld:=HS.o _ hb5;refine cH hQ 25 hHeld ?_;refine cH hQ 26 hHeld ?_;refine cH hQ 27 hHeld ?_;refine aP TcE rfl ?_;simp only [cQ,km,cL];clear hHeld hr1 hr2 hb2 hb3;unfold wpList;exact HK.o w4 _ _ _ _ _ _ _ _ _ _ _ _ _ _ _ _ _ _ _ _ _ _ _ _ _ _ _ hb5):p:=h
theorem Je (Q:Exit->Act->World->Prop)(c0 c1 c2 c3 c7 c8 c9 c10 c11 c12 c13 c14 c15 c16 c17 c18 c19 c20 c21 c22 c23 c24 c25 c26 c27 c28 c29 c30 c31 c32 c33 c34 c35 c36 c37 c38 c39 c40 c41 c42 c43 c44 c45 c46 c47 c48 c49 c50 c51 c52:Value)(w:World)(b off i k nn cap:Nat)(dn:ByteArray)(s1 n1 s2 n2:Int)(hi:i<nn)(hk:k<nn)(hb:b<w.heap.size)
  (hc:(w.cell? (b,off+i*4+1)=some (.string dn)/\w.cell? (b,off+i*4+2)=some (.int .i64 s1)/\w.cell? (b,off+i*4+3)=some (.int .i64 n1)/\w.cell? (b,off+k*4+1)=some (.string dn)/\w.cell? (b,off+k*4+2)=some (.int .i64 s2)/\w.cell? (b,off+k*4+3)=some (.int .i64 n2)))
  (Fl:∀ (W:World) (v1 v2:Value),Below w.heap.size w W->xo W v1 [(s1,n1)]->xo W v2 [(s2,n2)]->Calls prog 11 #[v1,v2,.int .i64 2] W fun e w'=>∃ p c,e=.returned (.slice p 0 c)/\Below W.heap.size W w')
  (HK:Hid (∀ (W':World) (u20 u21 u22 u23 u24 u25 u26 u27 u28 u29 u30 u31 u32 u33 u34 u35 u36 u37 u38 u39 u40 u41 u42 u43 u44 u45 u46:Value),Below w.heap.size w W'->Q .normal ⟨#[c0,c1,c2,c3,.slice (some (b,off)) nn cap,.int .i64 (i:Int),.int .i64 (k:Int),c7,c8,c9,c10,c11,c12,c13,c14,c15,c16,c17,c18,c19,u20,u21,u22,u23,u24,u25,u26,u27,u28,u29,u30,u31,u32,u33,u34,u35,u36,u37,u38,u39,u40,u41,u42,u43,u44,u45,u46,.bool false,c48,c49,c50,c51,c52],[]⟩ W'))
  (hQ:∀ c (a:Act) (d:Tmp) (v:Value) w,Q (.panic c) (a.put (some d) v) w->Q (.panic c) a w) :
  (La 8).wp prog Q ⟨#[c0,c1,c2,c3,.slice (some (b,off)) nn cap,.int .i64 (i:Int),.int .i64 (k:Int),c7,c8,c9,c10,c11,c12,c13,c14,c15,c16,c17,c18,c19,c20,c21,c22,c23,c24,c25,c26,c27,c28,c29,c30,c31,c32,c33,c34,c35,c36,c37,c38,c39,c40,c41,c42,c43,c44,c45,c46,c47,c48,c49,c50,c51,c52],[]⟩ w:=by
 conv=>arg 2;whnf
 have hS:∀ w':World,Below w.heap.size w w'->(w'.cell? (b,off+i*4+1)=some (.string dn)/\w'.cell? (b,off+i*4+2)=some (.int .i64 s1)/\w'.cell? (b,off+i*4+3)=some (.int .i64 n1)/\w'.cell? (b,off+k*4+1)=some (.string dn)/\w'.cell? (b,off+k*4+2)=some (.int .i64 s2)/\w'.cell? (b,off+k*4+3)=some (.int .i64 n2)):=fun w' e=>by
  obtain ⟨h1,h2,h3,h4,h5,h6⟩:=hc;exact ⟨(e.cell (p:=⟨b,off+i*4+1,none⟩) hb).trans h1,(e.cell (p:=⟨b,off+i*4+2,none⟩) hb).trans h2,(e.cell (p:=⟨b,off+i*4+3,none⟩) hb).trans h3,(e.cell (p:=⟨b,off+k*4+1,none⟩) hb).trans h4,(e.cell (p:=⟨b,off+k*4+2,none⟩) hb).trans h5,(e.cell (p:=⟨b,off+k*4+3,none⟩) hb).trans h6⟩
 have HS:=aa hS;clear hS;have HC:=aa Fl;clear Fl hc;refine aL (fun w'=>w'.cell? (b,off+i*4+1)=some (.string dn)/\w'.cell? (b,off+i*4+2)=some (.int .i64 s1)/\w'.cell? (b,off+i*4+3)=some (.int .i64 n1)/\w'.cell? (b,off+k*4+1)=some (.string dn)/\w'.cell? (b,off+k*4+2)=some (.int .i64 s2)/\w'.cell? (b,off+k*4+3)=some (.int .i64 n2)) 28 [] TcE (HS.o _ (bj _ _).drew) (fun hHeld=>?_);refine cH hQ 0 hHeld ?_;refine cH hQ 1 hHeld ?_;refine cH hQ 2 hHeld ?_;refine cH hQ 3 hHeld ?_;refine cH hQ 4 hHeld ?_;refine cH hQ 5 hHeld ?_;refine cH hQ 6 hHeld ?_;refine cH hQ 7 hHeld ?_;refine cH hQ 8 hHeld ?_;refine cH hQ 9 hHeld ?_;refine cH hQ 10 hHeld ?_;refine cH hQ 11 hHeld ?_;refine cH hQ 12 hHeld ?_;refine cH hQ 13 hHeld ?_;refine cH hQ 14 hHeld ?_;refine cH hQ 15 hHeld ?_;refine cH hQ 16 hHeld ?_;refine cH hQ 18 hHeld ?_;refine cH hQ 19 hHeld ?_;refine cH hQ 20 hHeld ?_;refine cH hQ 21 hHeld ?_;refine cH hQ 22 hHeld ?_;refine JA (i:=17) (j:=23) rfl rfl rfl rfl TcE (fun K hK=>?_) (fun K hK=>?_)
 ·go_simp;have hb2:Below w.heap.size w (w.alloc (.cells #[.int .i64 s1,.int .i64 n1] 55)).drew:=(ae w _).drew;have hr1:=(Ie w s1 n1).below (bj _ _).drew;refine hK.o _ _ (HS.o _ hb2) ?_;clear hK K hHeld;have hsz2:=hb2.size;generalize hW2:World.drew _=W2 at *;clear hW2;refine Gr (i:=23) rfl rfl TcE (fun K hK=>?_);go_simp;have PX:=ae W2 (.cells #[.int .i64 s2,.int .i64 n2] 55);have hb3:Below w.heap.size w (W2.alloc (.cells #[.int .i64 s2,.int .i64 n2] 55)):=hb2.trans (PX.mono hsz2);have hr2:=Ie W2 s2 n2;replace hr1:=hr1.below PX;exact TaY
 go_simp;have hb2:Below w.heap.size w (w.alloc (.cells #[.int .i64 s2,.int .i64 n2] 55)).drew:=(ae w _).drew;have hr2:=(Ie w s2 n2).below (bj _ _).drew;refine hK.o _ _ (HS.o _ hb2) ?_;clear hK K hHeld;have hsz2:=hb2.size;generalize hW2:World.drew _=W2 at *;clear hW2;refine Gr (i:=17) rfl rfl TcE (fun K hK=>?_);go_simp;have PX:=ae W2 (.cells #[.int .i64 s1,.int .i64 n1] 55);have hb3:Below w.heap.size w (W2.alloc (.cells #[.int .i64 s1,.int .i64 n1] 55)):=hb2.trans (PX.mono hsz2);have hr1:=Ie W2 s1 n1;replace hr2:=hr2.below PX;exact TaY
theorem JD (g:af)(a:bN)(w:World)(hg:ck aN 6 ok w [.slice a.vp g.F9.length a.vc] g.F9)(mb:g.F9.length<=1000)(ht:qx g.F9)(hpn:(pieces g.F9).length<=100000)
  (hap:∀ (i k:Nat) (p q:gy),k<i->(pieces g.F9)[i]?=some p->(pieces g.F9)[k]?=some q->p.disk=q.disk->q.start+q.len<=p.start) (CH:∀ p∈pieces g.F9,(0<=p.start/\p.start<=1000000)/\1<=p.len/\p.len<=1000000) :
  Calls prog 83 #[.agg (Tad g a)] w fun e w'=>e=.returned (.tuple #[.string ⟨#[]⟩,.bool false])/\Below w.heap.size w w':=by
 have YH:=aa hap;clear hap;have sY:=aa CH;clear CH;have HT:=aa ht;clear ht;have hA1:=ae w (.cells (Tad g a) 31);have hN1:=b9 w (.cells (Tad g a) 31);have HG1:=aa ((ck.moves aN.moves).mv (Mv.of hA1) hg);have cU:=aa hA1;clear hg hA1;go_enter func83,ntmps83
 go_upto_region 1 with (fail);generalize World.alloc w _=W1 at *;generalize hE:w.heap.size=Bg at hN1 ⊢;have gL:=mi hN1;obtain ⟨g0,g1,g2,g3,g4,g5,g6,g7,g8⟩:=xr gL;clear gL hN1 hE;go_wp2_with fail;clear g0 g1 g2 g3 g4 g5 g6 g7 g8;refine (Hg g.name g.id g.seq g.Gd g.next a.tp a.dp a.vp a.hp g.tags.length a.tc g.Gb.length a.dc a.vc g.history.length a.hc g.F9 W1 HG1.o mb HT.o hpn).mono ?_;rintro e w2 ⟨v,rfl,ho,hb2⟩;have HO:Hid (ck Gt 4 (fun _=>True) w2 [v] (pieces g.F9)):=aa (bF.rd Gt.moves ho TcF (fun _ _ h=>h.elim) (fun _ _=>trivial));have cm:=Zbl cU hb2;clear hb2 ho;generalize hpl:pieces g.F9=L at *;clear hpl;obtain ⟨pp,pc,rfl,_,_⟩:=HO.o.cap;go_wp2;go_loopw [5] (fun i wr=>∃ j:Nat,j<=L.length/\i=.int .i64 j/\Below w2.heap.size w2 wr) (fun i _=>L.length - (intOf i).toNat)
 exact ⟨0,cg _,rfl,bj _ _⟩;obtain ⟨i,hi,rfl,hB⟩:=hrel;have HB:=aa hB;clear hB;by_cases hlt:i<L.length
 ·obtain ⟨p,hp⟩:=aj L i hlt;have HP:=aa hp;obtain ⟨b,off,us,rfl,_,cX,_,eE,hcv⟩:=HO.o.elem hp;obtain rfl:us=_:=eE;have HC1:=aa hcv;have HPI:=aa (sY.o p (ct hp));clear hcv hp;go_wp2;go_loopw [6] (fun z wi=>∃ j:Nat,j<=i/\z=.int .i64 j/\Below w2.heap.size w2 wi) (fun z _=>i - (intOf z).toNat)
  exact ⟨0,cg _,rfl,HB.o⟩;obtain ⟨k,hk,rfl,hB2⟩:=hrel;have Pp:=aa hB2;clear hB2;by_cases hlt2:k<i
  ·obtain ⟨q,hq⟩:=aj L k TcC;obtain ⟨b2,off2,us2,hsp,_,C2,_,C3,hcv2⟩:=HO.o.elem hq;obtain rfl:us2=_:=C3;simp only [Option.some.injEq,Addr.mk.injEq,and_true] at hsp;obtain ⟨rfl,rfl⟩:=hsp;have HQI:=aa (sY.o q (ct hq));have HDJ:=aa (YH.o i k p q hlt2 HP.o hq);have cT:=Pp.o.block b cX;have hbl:=cC cX Pp.o.size;have hkl:k<L.length:=by omega
   have p1:=(cd (a:=⟨b,off+i*4+1,none⟩) cT).trans (HC1.o 1 _ rfl);have p2:=(cd (a:=⟨b,off+i*4+2,none⟩) cT).trans (HC1.o 2 _ rfl);have p3:=(cd (a:=⟨b,off+i*4+3,none⟩) cT).trans (HC1.o 3 _ rfl);have q1:=ai cT (hcv2 1 _ rfl);have q2:=ai cT (hcv2 2 _ rfl);have q3:=ai cT (hcv2 3 _ rfl);clear hcv2 hq cT;by_cases hd:p.disk=q.disk
   ·have hdj:=HDJ.o hd;rw [<- hd] at q1;obtain ⟨⟨i1,i2⟩,i3,i4⟩:=HPI.o;obtain ⟨⟨k1,k2⟩,k3,k4⟩:=HQI.o;clear hd HDJ;go_upto_region 8 with (fail);refine Je _ _ _ _ _ _ _ _ _ _ _ _ _ _ _ _ _ _ _ _ _ _ _ _ _ _ _ _ _ _ _ _ _ _ _ _ _ _ _ _ _ _ _ _ _ _ _ _ _ _ _ wr b off i k L.length pc p.disk p.start p.len q.start q.len hlt hkl hbl ⟨p1,p2,p3,q1,q2,q3⟩ (fun W v1 v2 hbW hr1 hr2=>?_) (aa ?_) (fun _ _ _ _ _ h=>h)
    ·refine (Gn [(p.start,p.len)] [(q.start,q.len)] 2 (.inr (.inr rfl)) v1 v2 W hr1 hr2 Tez Tez TcD TcD).mono ?_;rintro e w'' ⟨v,s,rfl,hos,hs,_,_,hb2⟩;obtain rfl:=KF hs hdj;obtain ⟨p,c,rfl,_⟩:=hos.rd;exact ⟨p,c,rfl,hb2⟩
    intro W' u20 u21 u22 u23 u24 u25 u26 u27 u28 u29 u30 u31 u32 u33 u34 u35 u36 u37 u38 u39 u40 u41 u42 u43 u44 u45 u46 hbW;have cJ:=Zbl Pp hbW;clear hbW p1 p2 p3 q1 q2 q3;go_wp2;go_roundw;exact ⟨k+1,TcC,TcG,cJ.o⟩;simp [intOf];omega
   have hne:=jI hd;have LX:Hid (∀ n,Below w2.heap.size w2 (wr.drewN n)):=aa fun n=>aT Pp.o n;clear hd HDJ
   go_upto_region 8 with (fail);go_quiet (fail);clear p1 p2 p3 q1 q2 q3 hne;exact Tb0
  go_wp2;go_roundw;exact ⟨i+1,TcC,TcG,Pp.o⟩;simp [intOf];omega
 have TF:=Zbl cm HB.o;go_wp2;go_ret2;exact ⟨rfl,TF.o⟩
theorem H6 (v:ay)(u:List Value)(w:World)(hv:aN ok w u v)(hz:qD v)(hl:(kY v).length<=1000000) :
  Calls prog 131 #[.agg u.toArray] w (Dx w.heap.size w (kY v)):=by
 obtain ⟨tv,sv,rfl,ew,fL⟩:=hv;obtain ⟨tp,tc,rfl,_,_⟩:=ew.cap;obtain ⟨sp,sc,rfl,hsc1,hsc2⟩:=fL.cap;have Zv:=aa fL;clear fL ew;have GF:=hz.Gf;have HZ:=aa hz;clear hz;have hl':(je v.Gf).length<=1000000:=hl;clear hl;have HUV:Hid (kY v=je v.Gf):=aa rfl;have HB:=aa (ae w (.cells (Taf v tp tc sp sc) 68));have Wx:=aa (b9 w (.cells (Taf v tp tc sp sc) 68));go_enter func131,ntmps131
 go_upto_region 3 with (fail);generalize hW1:World.alloc w _=W1 at *;generalize hBv:w.heap.size=Bv at Wx ⊢;clear hW1 hBv;go_loopw [3,4] (fun l i wr=>∃ k:Nat,k<=v.Gf.length/\i=.int .i64 k/\dF wr w.heap.size l (je (v.Gf.take k))/\wr.heap[Bv]?=some (.cells (Taf v tp tc sp sc) 68 (0,0))/\Below w.heap.size w wr) (fun _ i _=>v.Gf.length - (intOf i).toNat)
 exact ⟨0,cg _,rfl,dF.nil _ _,Wx.o,HB.o⟩;clear HB Wx;obtain ⟨k,hk,rfl,hown,XV,hB⟩:=hrel;have Wx:=aa XV;have x5:=mi XV 5 _ rfl;clear XV;have HOW:=aa hown;clear hown;have HB:=aa hB;clear hB;have mA:=HB.o.size;have ab0:(je (v.Gf.take k)).length<=1000000:=cA BX hl';by_cases hlt:k<v.Gf.length
 ·obtain ⟨s,hs⟩:=aj v.Gf k hlt;obtain ⟨b,off,us,rfl,gR,cX,ez,eE,hcv⟩:=Zv.o.elem hs;have hsm:=ct hs;have hal:=(HZ.o.seg s hsm).1;obtain ⟨av,Oz,rfl,py,hst⟩:=eE;obtain ⟨ap,ac,rfl,_,_⟩:=py.cap;obtain ⟨eN,eR,rfl,_,_⟩:=hst.cap;have ya:=aa py;clear py hst;have cT:wr.heap[b]?=w.heap[b]?:=HB.o.block b cX;obtain ⟨q0,q1,q2,q3,q4,q5,q6,q7,q8,q9,q10⟩:=ak5 cT hcv;have HSN:=aa (yT hs);clear hs hsm hcv ez cT;have lj:=aa (b9 wr (.cells (Tae s ap ac eN eR) 114));have hA:=ae wr (.cells (Tae s ap ac eN eR) 114);have cm:=aa (HB.o.trans (hA.mono mA));have HOW2:=aa (HOW.o.below hA);have az9:=Zbk hA Wx;clear hA;go_upto_region 6 with (fail);clear x5 Wx q0 q1 q2 q3 q4 q5 q6 q7 q8 q9 q10;generalize hW2:World.alloc wr _=W2 at *;generalize hBs:wr.heap.size=Bs at *;clear hW2 HB HOW;go_upto_region 7 with (fail);go_loopw [3,6] (fun l i wi=>∃ j:Nat,j<=s.Ga.length/\i=.int .i64 j/\dF wi w.heap.size l (je (v.Gf.take k)++vP (s.Ga.take j))/\wi.heap[Bs]?=some (.cells (Tae s ap ac eN eR) 114 (0,0))/\wi.heap[Bv]?=some (.cells (Taf v tp tc (some ⟨b,off,none⟩) sc) 68 (0,0))/\Below w.heap.size w wi) (fun _ i _=>s.Ga.length - (intOf i).toNat)
  exact ⟨0,cg _,rfl,by rw [iv];simpa [vP] using HOW2.o,lj.o,az9.o,cm.o⟩;clear lj cm HOW2 az9;obtain ⟨j,hj,rfl,hown,gO,XV,hB⟩:=hrel;have Wx:=aa XV;clear XV;have s3:=mi gO 3 _ rfl;have HOW:=aa hown;clear hown;have HB:=aa hB;clear hB;have lj:=aa gO;clear gO;have aj8:=HB.o.size;have mb:=Df (s.Ga.take j);rw [ey] at mb;by_cases hlt2:j<s.Ga.length
  ·obtain ⟨x,hx⟩:=aj s.Ga j hlt2;obtain ⟨b2,off2,us2,hsp,I0,C2,B5,C3,hcv2⟩:=ya.o.elem hx;subst hsp;obtain rfl:us2=_:=C3;have AD:wr.heap[b2]?=w.heap[b2]?:=HB.o.block b2 C2;obtain ⟨q0,q1,q2⟩:=Mn AD hcv2;have XU:=aa (BA hx);clear hcv2 B5 hx AD;have Pm:=aq lj.o;have Mt:Hid (∀ n,Below w.heap.size w (wr.drewN n)):=aa fun n=>aT HB.o n;cases I2:x.vol with
   | false =>
    rw [I2] at q0 XU;rw [bh TcD,eM] at XU;have HV:=aa I2;clear I2;go_wp2;go_roundw;exact ⟨j+1,TcC,TcG,by rw [XU.o];exact HOW.o,lj.o,Wx.o,HB.o⟩;simp [intOf];omega
   | true =>
    rw [I2] at q0 XU;rw [aw rfl] at XU;have HV:=aa I2;clear I2;go_wp2_with (at_builtin;refine dz rfl _ _ rfl w.heap.size _ (je (v.Gf.take k)++vP (s.Ga.take j)) x.on rfl ?c1 wr.heap.size 1 rfl ?c2 ?c3 ?c4 ?_)
    case c1=>exact HOW.o.alloc _
    case c2=>exact aD rfl rfl
    case c3=>rw [cD];omega
    case c4=>simp;omega
    intro v' w1 hown1 hb1 hg1;have hA:=ae wr (.cells #[.string x.on] 9);have ml:=(hA.block _ Pm).trans lj.o;have Tw:=(hA.block _ (aq Wx.o)).trans Wx.o;have eI:=aa ((HB.o.trans (hA.mono aj8)).trans hb1);have Tx:=aa ((hg1.block Bs (aq ml) (fun e=>(HOW.o.below hA).ne ml TcF e.symm)).trans ml);have ar4:=aa ((hg1.block Bv (aq Tw) (fun e=>(HOW.o.below hA).ne Tw TcF e.symm)).trans Tw);have HOW4:=aa hown1;clear hA ml Tw hb1 hg1 hown1 s3 q0 q1 q2;go_wp2;go_roundw;exact ⟨j+1,TcC,TcG,by rw [XU.o];exact HOW4.o,Tx.o,ar4.o,eI.o⟩;simp [intOf];omega
  obtain rfl:j=s.Ga.length:=by omega
  rw [cI] at HOW mb;generalize Pn:je (v.Gf.take k)++vP s.Ga=AL at *;have Wb:AL.length<=3000000:=by rw [<- Pn,cD];omega
  have Hk:Hid (je (v.Gf.take (k+1))=AL++(if s.log.toList.isEmpty then [] else [s.log])++(if s.pool.toList.isEmpty then [] else [s.pool])):=aa (by rw [HSN.o,<- Pn];rfl);clear Pn mb HSN;have s6:=cr lj.o 6 _ rfl;have s7:=cr lj.o 7 _ rfl;have Pm:=aq lj.o;cases Fi:s.log.toList.isEmpty with
  | true =>
   rw [Fi,aw rfl,eM] at Hk;cases PY:s.pool.toList.isEmpty with
   | true =>
    rw [PY,aw rfl,eM] at Hk;go_wp2;go_roundw;exact ⟨k+1,TcC,TcG,by rw [Hk.o];exact HOW.o,Wx.o,HB.o⟩;simp [intOf];omega
   | false =>
    rw [PY,bh TcD] at Hk;go_wp2_with (at_builtin;refine dz rfl _ _ rfl w.heap.size _ AL s.pool rfl ?d1 wr.heap.size 1 rfl ?d2 ?d3 ?d4 ?_)
    case d1=>exact HOW.o.alloc _
    case d2=>exact aD rfl rfl
    case d3=>omega
    case d4=>simp;omega
    intro v' w1 hown1 hb1 hg1;have hA:=ae wr (.cells #[.string s.pool] 9);have Tw:=(hA.block _ (aq Wx.o)).trans Wx.o;have ar4:=aa ((hg1.block Bv (aq Tw) (fun e=>(HOW.o.below hA).ne Tw TcF e.symm)).trans Tw);clear hA Tw;have eI:=aa ((HB.o.alloc aj8 _).trans hb1);have HOW4:=aa hown1;clear hb1 hg1 hown1;go_wp2;go_roundw;exact ⟨k+1,TcC,TcG,Td2,ar4.o,eI.o⟩;simp [intOf];omega
  | false =>
   rw [Fi,bh TcD] at Hk;go_wp2_with (at_builtin;refine dz rfl _ _ rfl w.heap.size _ AL s.log rfl ?e1 wr.heap.size 1 rfl ?e2 ?e3 ?e4 ?_)
   case e1=>exact HOW.o.alloc _
   case e2=>exact aD rfl rfl
   case e3=>omega
   case e4=>simp;omega
   intro v' w1 hown1 hb1 hg1;have hA:=ae wr (.cells #[.string s.log] 9);have ml:=(hA.block _ Pm).trans lj.o;have Tw:=(hA.block _ (aq Wx.o)).trans Wx.o;have ar4:=aa ((hg1.block Bv (aq Tw) (fun e=>(HOW.o.below hA).ne Tw TcF e.symm)).trans Tw);have eI:=aa ((HB.o.trans (hA.mono aj8)).trans hb1);have Tx:=aa ((hg1.block Bs (aq ml) (fun e=>(HOW.o.below hA).ne ml TcF e.symm)).trans ml);have HOW4:=aa hown1;have Wc:=eI.o.size;clear hA ml Tw hb1 hg1 hown1 s6 s7;have s7:=cr Tx.o 7 _ rfl
   cases PY:s.pool.toList.isEmpty with
   | true =>
    rw [PY,aw rfl,eM] at Hk;go_wp2;go_roundw;exact ⟨k+1,TcC,TcG,Td2,ar4.o,eI.o⟩;simp [intOf];omega
   | false =>
    rw [PY,bh TcD] at Hk;go_wp2_with (at_builtin;refine dz rfl _ _ rfl w.heap.size _ (AL++[s.log]) s.pool rfl ?f1 w1.heap.size 1 rfl ?f2 ?f3 ?f4 ?_)
    case f1=>exact HOW4.o.alloc _
    case f2=>exact aD rfl rfl
    case f3=>simp;omega
    case f4=>simp;omega
    intro v2 w2 hown2 hb2 hg2;have hA:=ae w1 (.cells #[.string s.pool] 9);have Tw:=(hA.block _ (aq ar4.o)).trans ar4.o;have aB9:=aa ((hg2.block Bv (aq Tw) (fun e=>(HOW4.o.below hA).ne Tw TcF e.symm)).trans Tw);clear hA Tw;have eK:=aa ((eI.o.alloc Wc _).trans hb2);have HOW5:=aa hown2;clear hb2 hg2 hown2;go_wp2;go_roundw;exact ⟨k+1,TcC,TcG,by rw [Hk.o,cV];exact HOW5.o,aB9.o,eK.o⟩;simp [intOf];omega
 exact TbN
end Go.Proofs.YtaagglbgohjldaaGreatDoor
