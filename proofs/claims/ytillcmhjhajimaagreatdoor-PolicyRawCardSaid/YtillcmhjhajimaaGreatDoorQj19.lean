/- Lemmas: RgL, RefA, RefB, RanH, RefC, PolA, PolS, PolB. -/
import Derived.Test.YtillcmhjhajimaaGreatDoorQj17
import Derived.Laws.AppendOwnNone
set_option maxRecDepth 100000
set_option maxHeartbeats 32000000
set_option linter.all false
namespace Go.Proofs.YtillcmhjhajimaaGreatDoor
open Go.Proofs.Tryz
open Go.RowKit Go.Maps Go.Shelf
variable {a:bN}{b Bg Br Bj Bd nc tc:Nat}{g:af}{ops:Array Oper}{w:World}{Q:Exit->Act->World->Prop}{l:List Int}{n:Int}{r:aY}{nm:ByteArray}{x:List (Int × Int)}{p:Int × Int}{ends:List (ByteArray × Int)}{np jp tp:Option Addr}{nl jl:List ByteArray}{d:az}{ok':Nat->Prop}
theorem Ia{a b:Int}(h0:0<=a)(h1:a<=10000000)(h2:1<=b)(h3:b<=1024):0<=a*b/\a*b<=10240000000:=by
 have:=tW h1 h3 TcN (show(0:Int)<=10000000 by omega);exact⟨oA h0 TcN,TcN⟩
theorem JP{s:aB}(h:CX g s=true) :
  (s.kind=3->(∀a∈s.Ga,dO g a.on=s.length)/\(s.log.toList.isEmpty=false->1+(BZ g s+63)/64<=dO g s.log*g.Gd)) /\
  (s.kind=4->(∀a∈s.Ga,dO g a.on=dO g (MJ s 0))/\s.length/((s.Ga.length:Int)-1)*g.Gd+16<=dO g (MJ s 0)*g.Gd) /\
  (s.kind=5->dO g (MJ s 1)=s.length)/\(s.kind=7->dO g (MJ s 0)=s.length):=by
 unfold CX at h;refine⟨fun k=>?_,fun k=>?_,fun k=>?_,fun k=>?_⟩
 ·rw[aw k,eh]at h;refine⟨fun a ha=>by simpa using List.all_eq_true.1 h.1 a ha,fun hl=>?_⟩;have:=h.2;unfold Fe at this;rw[hl,nj,fk]at this;rwa[show BZ g s+64-1=BZ g s+63 by omega]at this
 ·rw[bh TcN,aw k,eh]at h;refine⟨fun a ha=>by simpa using List.all_eq_true.1 h.1 a ha,?_⟩;have:=h.2;unfold ER at this;simpa using this
 ·rw[bh TcN,bh TcN,aw k]at h;simpa using h
 rw[bh TcN,bh TcN,bh TcN,aw k]at h;simpa using h
theorem TaX{p:Prop}(h:p:=by
 clear s2;obtain⟨g0,g1,g2,g3,g4,g5,g6,g7,g8⟩:=Hr Mk.o;have HGQ:=aa fun q:fo=>(b6.moves aN.moves).mv (Mv.of (dQ W1 q)) rB.o.F9;have sL:=mi fl.o;have GF:=aq fl.o;have e1:=aG GF (sL 1 _ rfl);have e3:=aG GF (sL 3 _ rfl);clear sL GF
 (refine aU TcP TcP ?_;(repeat(go_big_quiet_step ((go_at_call 142;exact iH (Ar g a _ _ (HGQ.o _) hz)))));(with_reducible refine fR ?_);intro wqc ia;have av7:=dY ia;clear ia)
 have TF:=Zbl HB av7;clear av7 g0 g1 g2 g3 g4 g5 g6 g7 g8 e1 e3 q1 hq;go_wp2;go_ret;exact⟨rfl,TF.o⟩):p:=h
theorem Kk{ok:Nat->Prop}(g:af)(a:bN)(s:aB)(u:List Value)(w:World)(hv:bC ok w u s)(hg:dN ok w g a)(hz:JT g)(hlb:Cu g)(hx:1<=g.Gd/\g.Gd<=1024)(hf:Ah s)(he:CX g s=true) :
  Calls prog 91 #[.agg (Tad g a),.agg u.toArray] w fun e w'=>e=.returned (.bool true)/\Below w.heap.size w w':=by
 obtain⟨hp3,hp4,hp5,hp7⟩:=JP he;have Uh:=aa hp3;have V3:=aa hp4;have YB:=aa hp5;have HP7:=aa hp7;have hl0:=hf.fm.l0;have hl1:=hf.fm.l1;have aw2:=hf.fm.ar;have H53:=aa hf.fm.p5;have H73:=aa hf.fm.p7;have HC3:=aa hf.c3;have HA4:=aa hf.a4;have Qc:=aa hlb;obtain⟨hx1,hx2⟩:=hx;clear he hp3 hp4 hp5 hp7 hf hlb;obtain⟨av,Oz,rfl,mC,TG⟩:=hv;obtain⟨ap,ac,rfl,_,_⟩:=mC.cap;obtain⟨eN,eR,rfl,_,_⟩:=TG.cap;have HA:=aa mC;clear mC TG;have hA1:=ae w (.cells (Tad g a) 32);have hA2:=ae (w.alloc (.cells (Tad g a) 32)) (.cells (Tae s ap ac eN eR) 88);have hN1:=b9 w (.cells (Tad g a) 32);have fl:=aa (b9 (w.alloc (.cells (Tad g a) 32)) (.cells (Tae s ap ac eN eR) 88));have Mk:=aa ((hA2.block _ (aq hN1)).trans hN1);have HB:=aa (hA1.trans (hA2.mono hA1.size));have rB:=aa (hg.mv (Mv.of HB.o));clear hA1 hA2 hN1 hg;rw[cW]at fl;go_enter func91,ntmps91
 go_upto_region 1 with(fail);generalize World.alloc (World.alloc w _) _=W1 at *;generalize hE1:w.heap.size+1=Bs at fl ⊢;generalize hE0:w.heap.size=Bg at Mk ⊢;clear hE1 hE0;have s2:=mi fl.o 2 _ rfl;by_cases h3:s.kind=3
 ·obtain⟨az7,OX⟩:=Uh.o h3;have Qb:=aa az7;have HLG:=aa OX;have hc:=HC3.o h3;have hc1:=hc.1;have hc2:=hc.2;rw[h3]at s2;clear h3 az7 OX hc;go_upto_region 3 with(fail);clear s2;go_wp2;go_loopw[5] (fun i wr=>∃k:Nat,k<=s.Ga.length/\i=.int .i64 k/\Below W1.heap.size W1 wr) (fun i _=>s.Ga.length-(intOf i).toNat)
  exact⟨0,cg _,rfl,bj _ _⟩;obtain⟨k,hk,rfl,hB⟩:=hrel;have Mt:=aa hB;have ap2:=fl;have Ml:=Mk;have ap3:=rB;replace fl:=Zbk hB fl;replace Mk:=Zbk hB Mk;replace rB:=aa (rB.o.mv (Mv.of hB));have fy:=Zbl HB hB;clear hB ap2 Ml ap3;have s3:=mi fl.o 3 _ rfl;by_cases hlt:k<s.Ga.length
  ·obtain⟨r,hr⟩:=aj s.Ga k hlt;have hrm:=ct hr;obtain⟨b,off,us,rfl,_,cX,_,eE,hcv⟩:=HA.o.elem hr;obtain rfl:us=_:=eE;have cT:=fy.o.block b cX;have hbl:=cC cX fy.o.size;obtain⟨q0,q1,q2⟩:=Mn cT hcv;clear hcv hr cT;have hq:(dO g r.on != s.length)=false:=by rw[Qb.o r hrm];simp
   go_upto_region 6 with(fail);clear s3;obtain⟨g0,g1,g2,g3,g4,g5,g6,g7,g8⟩:=Hr Mk.o;have HGQ:=aa fun q:fo=>(b6.moves aN.moves).mv (Mv.of (dQ wr q)) rB.o.F9;have sL:=mi fl.o;have GF:=aq fl.o;have e1:=aG GF (sL 1 _ rfl);have e3:=aG GF (sL 3 _ rfl);replace q1:=aG hbl q1;clear sL GF hrm q0 q2
   (refine aU TcP TcP ?_;(repeat(go_big_quiet_step ((go_at_call 142;exact iH (Ar g a _ _ (HGQ.o _) hz)))));(with_reducible refine fR ?_);intro wqa ia;have an7:=dY ia;clear ia)
   have YF:=Zbl Mt an7;clear an7 g0 g1 g2 g3 g4 g5 g6 g7 g8 e1 e3 q1 hq Mt Mk fl rB fy hbl;go_wp2;go_roundw;exact⟨k+1,TcN,TcR,YF.o⟩;simp[intOf];omega
  clear hk Mt;have m0:=Ia (a:=s.length) (b:=g.Gd) TcN TcN hx1 hx2;have w1:IntKind.i64.wrap (s.length*g.Gd)=s.length*g.Gd:=dy _ TcN;have w2:IntKind.i64.wrap (s.length*g.Gd+s.chunk)=s.length*g.Gd+s.chunk:=dy _ TcN;have w3:IntKind.i64.wrap (s.length*g.Gd+s.chunk-1)=s.length*g.Gd+s.chunk-1:=dy _ TcN;have r0:0<=BZ g s:=lz TcN TcN;have r1:BZ g s<=s.length*g.Gd+s.chunk-1:=mS _ TcN;have w4:(s.length*g.Gd+s.chunk-1).tdiv s.chunk=BZ g s:=CC TcN;have w5:IntKind.i64.wrap (BZ g s)=BZ g s:=dy _ TcN;have w6:(s.chunk==0)=false:=beq_eq_false_iff_ne.2 TcN;have s1:=mi fl.o 1 _ rfl;have s4:=mi fl.o 4 _ rfl;have g3:=mi Mk.o 3 _ rfl;go_upto_region 9 with(fail);clear s1 s3 s4 g3 w1 w2 w3 w4 w5 w6;have r2:BZ g s<=10240001024:=by omega
  clear m0 r1;generalize hR:BZ g s=R at *;cases Fi:s.log.toList.isEmpty with
  |true =>
   have e6:=aG (aq fl.o) (mi fl.o 6 _ rfl);(refine aU TcP TcP ?_;(repeat(go_big_quiet_step ((fail))));(with_reducible refine fR ?_);intro wqb ia;have aq7:=dY ia;clear ia)
   have TF:=Zbl fy aq7;clear aq7 e6;go_wp2;go_ret;exact⟨rfl,TF.o⟩
  |false =>
   have OX:=HLG.o Fi;have Rn:=Qc.o s.log;have m1:=Ia (a:=dO g s.log) (b:=g.Gd) TcN TcN hx1 hx2;have w1:IntKind.i64.wrap (dO g s.log*g.Gd)=dO g s.log*g.Gd:=dy _ TcN;have w2:IntKind.i64.wrap (R+63)=R+63:=dy _ TcN;have d0:0<=(R+63)/64:=lz TcN TcN;have d1:(R+63)/64<=R+63:=mS _ TcN;have w3:(R+63).tdiv 64=(R+63)/64:=CC TcN;have w4:IntKind.i64.wrap ((R+63)/64)=(R+63)/64:=dy _ TcN;have w5:IntKind.i64.wrap (1+(R+63)/64)=1+(R+63)/64:=dy _ TcN;have w6:decide (1+(R+63)/64<=dO g s.log*g.Gd)=true:=eA OX;obtain⟨g0,g1,g2,g3,g4,g5,g6,g7,g8⟩:=Hr Mk.o;have HGQ:=aa fun q:fo=>(b6.moves aN.moves).mv (Mv.of (dQ wr q)) rB.o.F9;have sL:=mi fl.o;have GF:=aq fl.o;have e6:=aG GF (sL 6 _ rfl);clear sL GF OX Rn m1 d0 d1
   (refine aU TcP TcP ?_;(repeat(go_big_quiet_step ((go_at_call 142;exact iH (Ar g a _ _ (HGQ.o _) hz)))));(with_reducible refine fR ?_);intro wqb ia;have aq7:=dY ia;clear ia)
   have TF:=Zbl fy aq7;clear aq7 g0 g1 g2 g3 g4 g5 g6 g7 g8 e6 w1 w2 w3 w4 w5 w6;go_wp2;go_ret;exact⟨rfl,TF.o⟩
 by_cases h4:s.kind=4
 ·obtain⟨az8,hpb⟩:=V3.o h4;have Qb:=aa az8;have ha3:=HA4.o h4;rw[h4]at s2;clear h4 h3 az8;obtain⟨r0,hr0⟩:=aj s.Ga 0 TcN;have ho0:MJ s 0=r0.on:=by unfold MJ;rw[hr0];rfl
  rw[ho0]at Qb hpb;obtain⟨b0,off0,us0,hsp0,_,aD3,_,aB7,hcv0⟩:=HA.o.elem hr0;obtain rfl:us0=_:=aB7;have HQ0:=aa (hcv0 1 _ rfl);have aB8:=aa hsp0;clear hcv0 hsp0 hr0 ho0;go_upto_region 11 with(fail);clear s2;go_wp2;go_loopw[7] (fun i wr=>∃k:Nat,k<=s.Ga.length/\i=.int .i64 k/\Below W1.heap.size W1 wr) (fun i _=>s.Ga.length-(intOf i).toNat)
  exact⟨0,cg _,rfl,bj _ _⟩;obtain⟨k,hk,rfl,hB⟩:=hrel;have Mt:=aa hB;have ap2:=fl;have Ml:=Mk;have ap3:=rB;replace fl:=Zbk hB fl;replace Mk:=Zbk hB Mk;replace rB:=aa (rB.o.mv (Mv.of hB));have fy:=Zbl HB hB;clear hB ap2 Ml ap3;have s3:=mi fl.o 3 _ rfl;by_cases hlt:k<s.Ga.length
  ·obtain⟨r,hr⟩:=aj s.Ga k hlt;have hrm:=ct hr;obtain⟨b,off,us,rfl,_,cX,_,eE,hcv⟩:=HA.o.elem hr;obtain rfl:us=_:=eE;have cT:=fy.o.block b cX;have hbl:=cC cX fy.o.size;obtain⟨q0,q1,q2⟩:=Mn cT hcv;clear hcv hr cT;have hq:(dO g r.on != dO g r0.on)=false:=by rw[Qb.o r hrm];simp
   have heq:dO g r.on=dO g r0.on:=Qb.o r hrm;have TD:=aB8.o;simp only[Option.some.injEq,Addr.mk.injEq,and_true]at TD;obtain⟨rfl,rfl⟩:=TD;have q00:=(cd (a:=⟨b,off+0*3+1,none⟩) (fy.o.block b cX)).trans HQ0.o;rw[Nat.zero_mul,fg]at q00;have h0l:0<s.Ga.length:=by omega
   go_upto_region 14 with(fail);clear s3;obtain⟨g0,g1,g2,g3,g4,g5,g6,g7,g8⟩:=Hr Mk.o;have HGQ:=aa fun q:fo=>(b6.moves aN.moves).mv (Mv.of (dQ wr q)) rB.o.F9;have sL:=mi fl.o;have GF:=aq fl.o;have e3:=aG GF (sL 3 _ rfl);replace q1:=aG hbl q1;clear sL GF hrm q0 q2
   (refine aU TcP TcP ?_;(repeat(go_big_quiet_step ((go_at_call 142;exact iH (Ar g a _ _ (HGQ.o _) hz)))));(with_reducible refine fR ?_);intro wqa ia;have an7:=dY ia;clear ia)
   have h0g:=aq Mk.o;have h0s:=aq fl.o;replace Mk:=aa ((an7.block _ h0g).trans Mk.o);replace fl:=aa ((an7.block _ h0s).trans fl.o);replace rB:=aa (rB.o.mv (Mv.of an7));replace q00:=(an7.cell (p:=⟨b,off+1,none⟩) hbl).trans q00;replace hbl:=cC hbl an7.size;have YF:=Zbl Mt an7;clear an7 g0 g1 g2 g3 g4 g5 g6 g7 g8 e3 q1 Mt fy HGQ h0g h0s;go_upto_region 15 with(fail);rw[heq]at hq ⊢;obtain⟨g0,g1,g2,g3,g4,g5,g6,g7,g8⟩:=Hr Mk.o;have HGQ:=aa fun q:fo=>(b6.moves aN.moves).mv (Mv.of (dQ wqa q)) rB.o.F9;have sL:=mi fl.o;have GF:=aq fl.o;have e1:=aG GF (sL 1 _ rfl);have e3:=aG GF (sL 3 _ rfl);replace q00:=aG hbl q00;have Rn:=Qc.o r0.on;have m1:=Ia (a:=dO g r0.on) (b:=g.Gd) TcN TcN hx1 hx2;have w1:IntKind.i64.wrap (dO g r0.on*g.Gd)=dO g r0.on*g.Gd:=dy _ TcN;have w2:IntKind.i64.wrap ((s.Ga.length:Int)-1)=(s.Ga.length:Int)-1:=dy _ TcN;have w3:((s.Ga.length:Int)-1==0)=false:=beq_eq_false_iff_ne.2 TcN;have d0:0<=s.length/((s.Ga.length:Int)-1):=lz TcN TcN;have d1:s.length/((s.Ga.length:Int)-1)<=s.length:=mS _ TcN;have w4:s.length.tdiv ((s.Ga.length:Int)-1)=s.length/((s.Ga.length:Int)-1):=CC TcN;generalize s.length/((s.Ga.length:Int)-1)=D at *;have w5:IntKind.i64.wrap D=D:=dy _ TcN;have m2:=Ia (a:=D) (b:=g.Gd) d0 TcN hx1 hx2;have w6:IntKind.i64.wrap (D*g.Gd)=D*g.Gd:=dy _ TcN;have w7:IntKind.i64.wrap (D*g.Gd+16)=D*g.Gd+16:=dy _ TcN;have w8:decide (dO g r0.on*g.Gd<D*g.Gd+16)=false:=cN TcN;clear sL GF Rn m1 m2 d0 d1
   (refine aU TcP TcP ?_;(repeat(go_big_quiet_step ((go_at_call 142;exact iH (Ar g a _ _ (HGQ.o _) hz)))));(with_reducible refine fR ?_);intro wqb ia;have aq7:=dY ia;clear ia)
   have HBO:=Zbl YF aq7;clear aq7 g0 g1 g2 g3 g4 g5 g6 g7 g8 e1 e3 q00 w1 w2 w3 w4 w5 w6 w7 w8 hq YF Mk fl rB hbl HGQ;go_wp2;go_roundw;exact⟨k+1,TcN,TcR,HBO.o⟩;simp[intOf];omega
  clear hk Mt;exact Tcu
 by_cases h5:s.kind=5
 ·have hq:(dO g (MJ s 1)==s.length)=true:=by rw[YB.o h5];simp
  have hl:=H53.o h5;rw[h5]at s2;clear h5 h3 h4;obtain⟨r,hr⟩:=aj s.Ga 1 TcN;have ho:MJ s 1=r.on:=by unfold MJ;rw[hr];rfl
  rw[ho]at hq;obtain⟨b,off,us,rfl,_,cX,_,eE,hcv⟩:=HA.o.elem hr;obtain rfl:us=_:=eE;have q1:=aG (cC cX HB.o.size) ((cd (a:=⟨b,off+1*3+1,none⟩) (HB.o.block b cX)).trans (hcv 1 _ rfl));rw[Nat.one_mul]at q1;have hil:1<s.Ga.length:=by omega
  clear hcv hr ho;go_upto_region 18 with(fail);exact TaX
 by_cases h7:s.kind=7
 ·have hq:(dO g (MJ s 0)==s.length)=true:=by rw[HP7.o h7];simp
  have hl:=H73.o h7;rw[h7]at s2;clear h7 h3 h4 h5;obtain⟨r,hr⟩:=aj s.Ga 0 TcN;have ho:MJ s 0=r.on:=by unfold MJ;rw[hr];rfl
  rw[ho]at hq;obtain⟨b,off,us,rfl,_,cX,_,eE,hcv⟩:=HA.o.elem hr;obtain rfl:us=_:=eE;have q1:=aG (cC cX HB.o.size) ((cd (a:=⟨b,off+0*3+1,none⟩) (HB.o.block b cX)).trans (hcv 1 _ rfl));rw[Nat.zero_mul,fg]at q1;have hil:0<s.Ga.length:=by omega
  clear hcv hr ho;go_upto_region 20 with(fail);exact TaX
 have e3:(s.kind==3)=false:=beq_eq_false_iff_ne.2 h3;have e4:(s.kind==4)=false:=beq_eq_false_iff_ne.2 h4;have e5:(s.kind==5)=false:=beq_eq_false_iff_ne.2 h5;have e7:(s.kind==7)=false:=beq_eq_false_iff_ne.2 h7;clear h3 h4 h5 h7;exact Tct
theorem Hq(l:List Int)(j:Nat)(u:Value)(h:(l.map (Value.int .i64))[j]?=some u):∃n,l[j]?=some n/\u=.int .i64 n:=by
 rw[rI]at h;cases hl:l[j]? with
 |none=>rw[hl]at h;cases h
 |some n=>rw[hl]at h;cases h;exact⟨n,rfl,rfl⟩
theorem Ih(w:World)(B:Nat)(v vx:Value)(l m:List Int)(ty:TypeId)(hown:eG w B v l)(hx:Hs w vx m)(hlen:l.length+m.length<=100000000)(hB:B<=w.heap.size) :
  ∃v' w',(Builtin.append_ #[22,22] ty #[v,vx]).run prog w=.ok v' w'/\eG w' B v' (l++m)/\w.grownBy w' v.ownBlock:=by
 obtain⟨i0,hi,hz0,hz1,hz2⟩:=gg tZ;obtain⟨p,cap,rfl,hlc,ij,hp⟩:=hx;cases p with
 |none =>
  have hm:m=[]:=by
   cases m with
   |nil=>rfl
   |cons a m=>obtain⟨b,off,e,_⟩:=hp TcO;cases e
  subst hm;refine⟨v,w,?_,by simpa using hown,⟨rfl,rfl,rfl,bk _,fun _ _ _=>rfl⟩⟩;rcases hown.2 with⟨rfl,hn⟩|⟨g,cap',cur,rfl,_,_,vr,_⟩
  ·simp[Builtin.append_,tU underlying22,sizeOf,typeInfo,hi,Builtin.lenOf,Builtin.firstCells]
  simp[Builtin.append_,tU underlying22,sizeOf,typeInfo,hi,Builtin.lenOf,Builtin.firstCells,vr,storeCells]
 |some a =>
  by_cases h0:0<m.length
  ·obtain⟨b,off,e,hb,hc⟩:=hp h0
   cases e
   obtain⟨v',w',hr,ho',hg,_⟩:=run_append_own (P:=prog) w B 22 ty 3 i0 _ 1 8 underlying22 hi hz0 hz1 hz2 rfl TcQ v l.length (l.map (Value.int .i64)) hown ⟨b,off,none⟩ m.length cap (m.map (Value.int .i64)) TcO (fun j u hu=>by
    obtain⟨n,hn,rfl⟩:=Hq m j u hu;rw[iz];exact hc j n hn) (fun u hu=>by rw[List.mem_map]at hu;obtain⟨n,_,rfl⟩:=hu;rfl) TcW TcN hB
   refine⟨v',w',hr,?_,hg⟩;unfold eG;rw[gl,cD];exact ho'
  have hm:m=[]:=fX TcN;subst hm;obtain⟨v',w',hr,ho',hg,_⟩:=run_append_own (P:=prog) w B 22 ty 3 i0 _ 1 8 underlying22 hi hz0 hz1 hz2 rfl TcQ v l.length (l.map (Value.int .i64)) hown a 0 cap [] rfl (fun j u hu=>by simp at hu) (fun u hu=>by cases hu) TcW TcN hB;refine⟨v',w',hr,?_,hg⟩;unfold eG;simpa using ho'
theorem pz{o:Oper}{a:Act}{K:Act->World->Prop}{E:Prop}
  (hg:o.guard=none) (s x:Operand) (hop:o.op=Op.call { callee:=Callee.builtin Builtin.append,args:=#[s,x],argTypes:=#[22,22] })
  (B:Nat) (v vx:Value) (l m:List Int) (hs:a.eval s=v) (hx:a.eval x=vx) (hown:eG w B v l) (kf:Hs w vx m) (hlen:l.length+m.length<=100000000) (hB:B<=w.heap.size)
  (hK:∀v' w',eG w' B v' (l++m)->w.grownBy w' v.ownBlock->K (a.put o.dst v') w'):if Region.wanted o (yielded ops a.tmps)=true then Oper.wp prog o a w K Q else E:=by
 have hw:Region.wanted o (yielded ops a.tmps)=true:=by simp[Region.wanted,hg]
 rw[aw hw];obtain⟨v',w',hr,h1,h2⟩:=Ih w B v vx l m o.type hown kf hlen hB;unfold Oper.wp;simp[execOp,hop,resolve,invoke,builtin,hs,hx,hr,Result.andThen];exact hK v' w' h1 h2
theorem Ip{off cap:Nat}(k:Nat)(hk:k<=l.length)(hb:b<w.heap.size)(hc:ig w b off l)(hlc:l.length<=cap)(ij:cap<=9223372036854775807):Hs w (.slice (some (b,off)) k cap) (l.take k):=by
 have hl:(l.take k).length=k:=by simp;omega
 refine⟨some ⟨b,off,none⟩,cap,by rw[hl],TcN,ij,fun _=>⟨b,off,rfl,hb,fun i n hn=>?_⟩⟩;have hik:i<k:=by have:=(List.getElem?_eq_some_iff.1 hn).1;omega
 rw[ri hik]at hn;exact hc i n hn
theorem Ij{off cap:Nat}(k:Nat)(hk:k<=l.length)(hb:b<w.heap.size)(hc:ig w b off l)(hlc:l.length<=cap)(ij:cap<=9223372036854775807):Hs w (.slice (some (b,off+k)) (l.length-k) (cap-k)) (l.drop k):=by
 have hl:(l.drop k).length=l.length-k:=by simp
 refine⟨some ⟨b,off+k,none⟩,cap-k,by rw[hl],TcN,TcN,fun _=>⟨b,off+k,rfl,hb,fun i n hn=>?_⟩⟩;rw[pk]at hn;rw[Nat.add_assoc];exact hc (k+i) n hn
theorem Gv(w:World)(p:Option Addr)(cap:Nat)(hc:cap<=9223372036854775807):Hs w (.slice p 0 cap) []:=⟨p,cap,rfl,TcO,hc,fun h=>absurd h TcO⟩
theorem rE(h:w.cell? b=some (.int .i64 n)):Hs w (.slice (some b) 1 1) [n]:=by
 refine⟨some ⟨b,0,none⟩,1,rfl,TcO,TcN,fun _=>⟨b,0,rfl,cP w _ h,fun i m hm=>?_⟩⟩
 match i,hm with
 |0,hm=>simp at hm;subst hm;exact h
 |i+1,hm=>simp at hm
theorem GL{k:Nat}(hl:l.Pairwise (·<·))(h1:∀x∈l.take k,x<n)(h2:∀x∈l.drop k,n<x):(l.take k++[n]++l.drop k).Pairwise (·<·)/\∀m,m∈l.take k++[n]++l.drop k↔m∈l\/m=n:=by
 refine⟨?_,fun m=>?_⟩
 ·rw[tP,tP];refine⟨⟨hl.sublist (List.take_sublist k l),TcO,fun x hx y hy=>by simp at hy;subst hy;exact h1 x hx⟩,hl.sublist (List.drop_sublist k l),fun x hx y hy=>?_⟩;rcases List.mem_append.1 hx with hx|hx
  ·have:=h1 x hx;have:=h2 y hy;omega
  simp at hx;subst hx;exact h2 y hy
 have:=rk k l;rw[oT,oT];constructor
 ·rintro((h|h)|h)
  ·exact .inl (tR h)
  ·simp at h;exact .inr h
  exact .inl (List.mem_of_mem_drop h)
 rintro(h|h)
 ·rw[<- this]at h;rcases List.mem_append.1 h with h|h
  ·exact .inl (.inl h)
  exact .inr h
 exact .inl (.inr (by simp[h]))
def IB(w:World)(l:List Int)(n:Int)(e:Ending)(w':World):Prop :=
 ∃v l',e=.returned v/\Hs w' v l'/\l'.Pairwise (·<·)/\(∀m,m∈l'↔m∈l\/m=n)/\l'.length<=l.length+1/\Below w.heap.size w w'
theorem TcZ{p:Prop}(h:p:=by simp;try omega):p:=h
theorem TdW{p:Prop}(h:p:=by first|(simp;done)|(simpa using HI.o.2)):p:=h
theorem TdX{p:Prop}(h:p:=by first|(simp;done)|(simpa using HI.o.1)):p:=h
theorem Tbo{p:Prop}(h:p:=by
 go_wp2;go_ret;exact⟨_,_,rfl,ho43.rd,TdX,TdW,TcZ,hb43.o⟩):p:=h
theorem TdJ{p:Prop}(h:p:=by exact rE (hg36.cell (aD (by simp) rfl) (by simp[Value.ownBlock]))):p:=h
theorem TdR{p:Prop}(h:p:=by exact hb36.o):p:=h
theorem TdU{p:Prop}(h:p:=by exact ho36):p:=h
theorem TcX{p:Prop}(h:p:=by have:=hb36.o.size;simp;omega):p:=h
theorem TdH{p:Prop}(h:p:=by refine hb36.o.trans (kt (B:=w36.heap.size) ?_ hb36.o.size);(repeat' (first|exact bj _ _|exact bk _|(refine dT ?_ ?_ _)|(refine aT ?_ _)|(refine ee ?_)|(simp;done)|(simp;omega)))):p:=h
theorem TdI{p:Prop}(h:p:=by refine ho36.below ?_;(repeat' (first|exact bj _ _|exact bk _|(refine dT ?_ ?_ _)|(refine aT ?_ _)|(refine ee ?_)|(simp;done)|(simp;omega)))):p:=h
theorem TdK{p:Prop}(h:p:=by exact rE (aD (by simp) rfl)):p:=h
theorem TcV{p:Prop}(h:p:=by simp[Act.eval]):p:=h
theorem Tc9{p:Prop}(h:p:=by(repeat' (first|exact bj _ _|exact bk _|(refine dT ?_ ?_ _)|(refine aT ?_ _)|(refine ee ?_)|(simp;done)|(simp;omega)))):p:=h
theorem TdL{p:Prop}(h:p:=by simp[Act.eval,Act.put]):p:=h
theorem GD(l:List Int)(n:Int)(v:Value)(w:World)(hr:Hs w v l)(hs:l.Pairwise (·<·))(hlen:l.length<=10000000) :
  Calls prog 154 #[v,.int .i64 n] w (IB w l n):=by
 have HR:=aa hr;have HS:=aa hs;clear hs;obtain⟨p,cap,rfl,hlc,ij,hp⟩:=hr;go_enter func154,ntmps154;go_wp2
 go_loopw[5] (fun i wr=>∃k:Nat,k<=l.length/\i=.int .i64 k/\(∀x∈l.take k,x<n)/\wr=w) (fun i _=>l.length-(intOf i).toNat)
 exact⟨0,cg _,rfl,TcO,rfl⟩;obtain⟨k,hk,rfl,hall,rfl⟩:=hrel;have cE:=aa hall;clear hall;by_cases hlt:k<l.length
 ·obtain⟨b,off,rfl,gO,hc⟩:=hp TcN;obtain⟨x,hx⟩:=aj l k hlt;have hc1:=hc k x hx;have HX:=aa hx;have HC:=aa hc;clear hc hp hx;by_cases UM:x<n
  ·go_wp2;go_roundw;exact⟨k+1,TcN,TcR,fun y hy=>by
    rw[take_snoc' l k x HX.o]at hy;rcases List.mem_append.1 hy with hy|hy
    ·exact cE.o y hy
    simp at hy;subst hy;exact UM,trivial⟩
   simp[intOf];omega
  by_cases Yh:x=n
  ·subst Yh;have Qu:(x==x)=true:=by simp
   go_wp2;go_ret;exact⟨_,l,rfl,HR.o,HS.o,fun m=>⟨.inl,fun h=>h.elim id fun h=>by rw[h];exact ct HX.o⟩,TcN,bj _ _⟩
  have Qu:(x==n)=false:=by simp[Yh]
  have Vo:n<x:=by omega
  have h2:∀y∈l.drop k,n<y:=by
   intro y hy;rw[GR l k x HX.o]at hy;rcases List.mem_cons.1 hy with rfl|hy
   ·exact Vo
   have hp:=HS.o.sublist (List.drop_sublist k l);rw[GR l k x HX.o]at hp;have:=(List.pairwise_cons.1 hp).1 y hy;omega
  have HI:=aa (GL HS.o cE.o h2);clear Yh h2;have HRT:=aa (fun(W:World) (hW:Below wr.heap.size wr W)=>(Ip k hk gO HC.o hlc ij).below hW);have B2:=aa (fun(W:World) (hW:Below wr.heap.size wr W)=>(Ij k hk gO HC.o hlc ij).below hW);have UK:k<=cap:=by omega
  have Vk:¬cap=k:=by omega
  go_wp2;clear Qu Vo hc1;go_region_law (first
   |(refine pz (o:=⟨some 36,_,_,_,_,_⟩) rfl (.const (.slice none 0 0)) (.tmp 35) rfl wr.heap.size (.slice none 0 0) (.slice (some (b,off)) k cap) [] (l.take k) TcV TdL (eG.nil _ _) (HRT.o _ Tc9) TcS TcO ?_;intro v36 w36 ho36 hg36;have hb36:=aa (fN (B:=wr.heap.size) (a:=wr) Tc9 hg36 TcO Tdv))
   |(refine pz (o:=⟨some 39,_,_,_,_,_⟩) rfl (.tmp 36) (.tmp 38) rfl wr.heap.size v36 (.slice (some w36.heap.size) 1 1) ([]++l.take k) [n] TcV TcV TdI TdK TcS TcX ?_;intro v39 w39 ho39 hg39;have hb39:=aa (fN (B:=wr.heap.size) (a:=wr) TdH hg39 TcX (fun j hj=>(ho36.lt j hj).1)))
   |(refine pz (o:=⟨some 39,_,_,_,_,_⟩) rfl (.tmp 36) (.tmp 38) rfl wr.heap.size v36 (.slice (some wr.heap.size) 1 1) ([]++l.take k) [n] TcV TcV TdU TdJ TcS TcX ?_;intro v39 w39 ho39 hg39;have hb39:=aa (fN (B:=wr.heap.size) (a:=wr) TdR hg39 TcX (fun j hj=>(ho36.lt j hj).1)))
   |(refine pz (o:=⟨some 43,_,_,_,_,_⟩) rfl (.tmp 39) (.tmp 42) rfl wr.heap.size v39 (.slice (some (b,off+k)) (l.length-k) (cap-k)) ([]++l.take k++[n]) (l.drop k) TcV TcV ho39 (B2.o _ hb39.o) TcS hb39.o.size ?_;intro v43 w43 ho43 hg43;have hb43:=aa (fN (B:=wr.heap.size) (a:=wr) hb39.o hg43 hb39.o.size (fun j hj=>(ho39.lt j hj).1))))
  all_goals
   go_wp2;go_ret;exact⟨_,_,rfl,ho43.rd,TdX,TdW,TcS,hb43.o⟩
 by_cases hl0:0<l.length
 ·have Tt:k=l.length:=by omega
  subst Tt;have hi:=GL HS.o cE.o (n:=n) TcO;simp only[cI,List.drop_length,eM]at hi;have HI:=aa hi;clear hi;obtain⟨b,off,rfl,gO,hc⟩:=hp hl0;clear hp;by_cases hce:cap=l.length
  ·subst hce;have HRT:=aa (fun(W:World) (hW:Below wr.heap.size wr W)=>HR.o.below hW);have B2:=aa (fun(W:World) (_:Below wr.heap.size wr W)=>Gv W (some ⟨b,off,none⟩) 0 TcN);clear hc;go_wp2;go_region_law (first
    |(refine pz (o:=⟨some 36,_,_,_,_,_⟩) rfl (.const (.slice none 0 0)) (.tmp 35) rfl wr.heap.size (.slice none 0 0) (.slice (some (b,off)) l.length l.length) [] (l) TcV TdL (eG.nil _ _) (HRT.o _ Tc9) TcZ TcO ?_;intro v36 w36 ho36 hg36;have hb36:=aa (fN (B:=wr.heap.size) (a:=wr) Tc9 hg36 TcO Tdv))
    |(refine pz (o:=⟨some 39,_,_,_,_,_⟩) rfl (.tmp 36) (.tmp 38) rfl wr.heap.size v36 (.slice (some w36.heap.size) 1 1) ([]++l) [n] TcV TcV TdI TdK TcZ TcX ?_;intro v39 w39 ho39 hg39;have hb39:=aa (fN (B:=wr.heap.size) (a:=wr) TdH hg39 TcX (fun j hj=>(ho36.lt j hj).1)))
    |(refine pz (o:=⟨some 39,_,_,_,_,_⟩) rfl (.tmp 36) (.tmp 38) rfl wr.heap.size v36 (.slice (some wr.heap.size) 1 1) ([]++l) [n] TcV TcV TdU TdJ TcZ TcX ?_;intro v39 w39 ho39 hg39;have hb39:=aa (fN (B:=wr.heap.size) (a:=wr) TdR hg39 TcX (fun j hj=>(ho36.lt j hj).1)))
    |(refine pz (o:=⟨some 43,_,_,_,_,_⟩) rfl (.tmp 39) (.tmp 42) rfl wr.heap.size v39 (.slice (some (b,off)) 0 0) ([]++l++[n]) ([]) TcV TcV ho39 (B2.o _ hb39.o) TcZ hb39.o.size ?_;intro v43 w43 ho43 hg43;have hb43:=aa (fN (B:=wr.heap.size) (a:=wr) hb39.o hg43 hb39.o.size (fun j hj=>(ho39.lt j hj).1))))
   all_goals
    exact Tbo
  have HRT:=aa (fun(W:World) (hW:Below wr.heap.size wr W)=>HR.o.below hW);have B2:=aa (fun(W:World) (_:Below wr.heap.size wr W)=>Gv W (some ⟨b,off+l.length,none⟩) (cap-l.length) TcN);clear hc;go_wp2;go_region_law (first
   |(refine pz (o:=⟨some 36,_,_,_,_,_⟩) rfl (.const (.slice none 0 0)) (.tmp 35) rfl wr.heap.size (.slice none 0 0) (.slice (some (b,off)) l.length cap) [] (l) TcV TdL (eG.nil _ _) (HRT.o _ Tc9) TcZ TcO ?_;intro v36 w36 ho36 hg36;have hb36:=aa (fN (B:=wr.heap.size) (a:=wr) Tc9 hg36 TcO Tdv))
   |(refine pz (o:=⟨some 39,_,_,_,_,_⟩) rfl (.tmp 36) (.tmp 38) rfl wr.heap.size v36 (.slice (some w36.heap.size) 1 1) ([]++l) [n] TcV TcV TdI TdK TcZ TcX ?_;intro v39 w39 ho39 hg39;have hb39:=aa (fN (B:=wr.heap.size) (a:=wr) TdH hg39 TcX (fun j hj=>(ho36.lt j hj).1)))
   |(refine pz (o:=⟨some 39,_,_,_,_,_⟩) rfl (.tmp 36) (.tmp 38) rfl wr.heap.size v36 (.slice (some wr.heap.size) 1 1) ([]++l) [n] TcV TcV TdU TdJ TcZ TcX ?_;intro v39 w39 ho39 hg39;have hb39:=aa (fN (B:=wr.heap.size) (a:=wr) TdR hg39 TcX (fun j hj=>(ho36.lt j hj).1)))
   |(refine pz (o:=⟨some 43,_,_,_,_,_⟩) rfl (.tmp 39) (.tmp 42) rfl wr.heap.size v39 (.slice (some (b,off+l.length)) 0 (cap-l.length)) ([]++l++[n]) ([]) TcV TcV ho39 (B2.o _ hb39.o) TcZ hb39.o.size ?_;intro v43 w43 ho43 hg43;have hb43:=aa (fN (B:=wr.heap.size) (a:=wr) hb39.o hg43 hb39.o.size (fun j hj=>(ho39.lt j hj).1))))
  all_goals
   exact Tbo
 have hl:l=[]:=fX TcN;subst hl;have hk0:k=0:=by simpa using hk
 subst hk0;have HI:=aa (show([n]:List Int).Pairwise (·<·)/\∀m,m∈[n]↔m∈([]:List Int)\/m=n from⟨TcO,TcO⟩);cases p with
 |none =>
  have HRT:=aa (fun(W:World) (_:Below wr.heap.size wr W)=>Gv W none cap ij);have B2:=HRT;go_wp2;go_region_law (first
   |(refine pz (o:=⟨some 36,_,_,_,_,_⟩) rfl (.const (.slice none 0 0)) (.tmp 35) rfl wr.heap.size (.slice none 0 0) (.slice none 0 cap) [] ([]) TcV TdL (eG.nil _ _) (HRT.o _ Tc9) TcZ TcO ?_;intro v36 w36 ho36 hg36;have hb36:=aa (fN (B:=wr.heap.size) (a:=wr) Tc9 hg36 TcO Tdv))
   |(refine pz (o:=⟨some 39,_,_,_,_,_⟩) rfl (.tmp 36) (.tmp 38) rfl wr.heap.size v36 (.slice (some w36.heap.size) 1 1) ([]++[]) [n] TcV TcV TdI TdK TcZ TcX ?_;intro v39 w39 ho39 hg39;have hb39:=aa (fN (B:=wr.heap.size) (a:=wr) TdH hg39 TcX (fun j hj=>(ho36.lt j hj).1)))
   |(refine pz (o:=⟨some 39,_,_,_,_,_⟩) rfl (.tmp 36) (.tmp 38) rfl wr.heap.size v36 (.slice (some wr.heap.size) 1 1) ([]++[]) [n] TcV TcV TdU TdJ TcZ TcX ?_;intro v39 w39 ho39 hg39;have hb39:=aa (fN (B:=wr.heap.size) (a:=wr) TdR hg39 TcX (fun j hj=>(ho36.lt j hj).1)))
   |(refine pz (o:=⟨some 43,_,_,_,_,_⟩) rfl (.tmp 39) (.tmp 42) rfl wr.heap.size v39 (.slice none 0 cap) ([]++[]++[n]) ([]) TcV TcV ho39 (B2.o _ hb39.o) TcZ hb39.o.size ?_;intro v43 w43 ho43 hg43;have hb43:=aa (fN (B:=wr.heap.size) (a:=wr) hb39.o hg43 hb39.o.size (fun j hj=>(ho39.lt j hj).1))))
  all_goals
   go_wp2;go_ret;exact⟨_,_,rfl,ho43.rd,TdX,TdW,TcZ,hb43.o⟩
 |some a =>
  have HRT:=aa (fun(W:World) (_:Below wr.heap.size wr W)=>Gv W (some a) cap ij);have B2:=HRT;go_wp2;go_region_law (first
   |(refine pz (o:=⟨some 36,_,_,_,_,_⟩) rfl (.const (.slice none 0 0)) (.tmp 35) rfl wr.heap.size (.slice none 0 0) (.slice (some a) 0 cap) [] ([]) TcV TdL (eG.nil _ _) (HRT.o _ Tc9) TcZ TcO ?_;intro v36 w36 ho36 hg36;have hb36:=aa (fN (B:=wr.heap.size) (a:=wr) Tc9 hg36 TcO Tdv))
   |(refine pz (o:=⟨some 39,_,_,_,_,_⟩) rfl (.tmp 36) (.tmp 38) rfl wr.heap.size v36 (.slice (some w36.heap.size) 1 1) ([]++[]) [n] TcV TcV TdI TdK TcZ TcX ?_;intro v39 w39 ho39 hg39;have hb39:=aa (fN (B:=wr.heap.size) (a:=wr) TdH hg39 TcX (fun j hj=>(ho36.lt j hj).1)))
   |(refine pz (o:=⟨some 39,_,_,_,_,_⟩) rfl (.tmp 36) (.tmp 38) rfl wr.heap.size v36 (.slice (some wr.heap.size) 1 1) ([]++[]) [n] TcV TcV TdU TdJ TcZ TcX ?_;intro v39 w39 ho39 hg39;have hb39:=aa (fN (B:=wr.heap.size) (a:=wr) TdR hg39 TcX (fun j hj=>(ho36.lt j hj).1)))
   |(refine pz (o:=⟨some 43,_,_,_,_,_⟩) rfl (.tmp 39) (.tmp 42) rfl wr.heap.size v39 (.slice (some a) 0 cap) ([]++[]++[n]) ([]) TcV TcV ho39 (B2.o _ hb39.o) TcZ hb39.o.size ?_;intro v43 w43 ho43 hg43;have hb43:=aa (fN (B:=wr.heap.size) (a:=wr) hb39.o hg43 hb39.o.size (fun j hj=>(ho39.lt j hj).1))))
  all_goals
   go_wp2;go_ret;exact⟨_,_,rfl,ho43.rd,TdX,TdW,TcZ,hb43.o⟩
def Iy(w:World)(Z:List Int)(e:Ending)(w':World):Prop:=∃v P,e=.returned v/\Hs w' v P/\Cq P Z/\P.length<=Z.length/\Below w.heap.size w w'
theorem G8(l:List (Int × Int))(v:Value)(w:World)(hr:xo w v l)(hval:dI l=true)(hlen:l.length<=1000000) :
  Calls prog 108 #[v] w (Iy w (eU l)):=by
 have HV:=aa hval;clear hval;obtain⟨p,cap,rfl,hlc,ij,hp⟩:=hr;go_enter func108,ntmps108;go_wp2
 go_loopw[3,4] (fun vo i wr=>∃(k:Nat) (o:List Int),k<=l.length/\i=.int .i64 k/\Hs wr vo o/\o.Pairwise (·<·)/\(∀m,m∈o↔m∈eU (l.take k))/\o.length<=2*k/\Below w.heap.size w wr) (fun _ i _=>l.length-(intOf i).toNat)
 exact⟨0,[],cg _,rfl,Hs.nil _,List.Pairwise.nil,by simp[eU],TcO,bj _ _⟩;obtain⟨k,o,hk,rfl,hro,KB,Tc,hol,hb⟩:=hrel;by_cases hlt:k<l.length
 ·obtain⟨b,off,rfl,gO,hc⟩:=hp TcN;obtain⟨x,hx⟩:=aj l k hlt;have hcc:=(hc.below hb gO) k x hx;have hc1:=hcc.1;have hc2:=hcc.2;have cX:b<wr.heap.size:=cC gO hb.size;obtain⟨hx0,hx1,hx2⟩:=iF HV.o x (ct hx);have HX:=aa hx;have Pr:=aa Tc;have XE:=aa (fun(W:World) (hW:Below wr.heap.size wr W)=>hro.below hW);have QW:=aa KB;clear hc hp hcc hx Tc hro KB;have hw1:IntKind.i64.wrap (x.1+x.2)=x.1+x.2:=dy _ TcN;go_wp2;go_region_held3 (fun w'=>w'.cell? (b,off+k*2)=some (.int .i64 x.1)/\w'.cell? (b,off+k*2+1)=some (.int .i64 x.2)) (go_keep)
   (first
    |(go_at_call_of 154 (Value.int .i64 x.1);refine(GD o x.1 _ _ (XE.o _ ((bj _ _).drew)) QW.o TcN).mono ?_;rintro e w2 ⟨v2,o2,rfl,hro2,Td,Te,Ww,hb2⟩;have hd1:w2.cell? (b,off+k*2)=some (.int .i64 x.1):=(hb2.cell (p:=⟨b,off+k*2,none⟩) (by simpa using cX)).trans (by simpa using hc1);have hd2:w2.cell? (b,off+k*2+1)=some (.int .i64 x.2):=(hb2.cell (p:=⟨b,off+k*2+1,none⟩) (by simpa using cX)).trans (by simpa using hc2))
    |(go_at_call_of 154 (Value.int .i64 (x.1+x.2));refine(GD o2 (x.1+x.2) _ _ hro2 Td TcN).mono ?_;rintro e w3 ⟨v3,o3,rfl,hro3,Tf,Tg,ae5,hb3⟩;have hf1:w3.cell? (b,off+k*2)=some (.int .i64 x.1):=(hb3.cell (p:=⟨b,off+k*2,none⟩) (cC cX hb2.size)).trans hd1;have hf2:w3.cell? (b,off+k*2+1)=some (.int .i64 x.2):=(hb3.cell (p:=⟨b,off+k*2+1,none⟩) (cC cX hb2.size)).trans hd2))
  clear hw1 hd1 hd2 hf1 hf2 hc1 hc2;have hb5:Below w.heap.size w w3:=mn (mn hb.drew hb2) hb3;have as6:∀m,m∈o3↔m∈eU (l.take (k+1)):=fun m=>by
   rw[Tg,Te,Pr.o,xw l k x HX.o,oT];simp;constructor
   ·rintro((h|h)|h)
    ·exact .inl h
    ·exact .inr (.inl h)
    exact .inr (.inr h)
   rintro(h|h|h)
   ·exact .inl (.inl h)
   ·exact .inl (.inr h)
   exact .inr h
  have HM:=aa as6;have HS3:=aa Tf;clear as6 Te Tg Td Tf;go_wp2;go_roundw;exact⟨k+1,o3,TcN,TcR,hro3,HS3.o,HM.o,TcN,hb5⟩;simp[intOf];omega
 have Vk:k=l.length:=by omega
 subst Vk;rw[cI]at Tc;have HM:=aa Tc;clear Tc;go_wp2;go_ret;exact⟨_,o,rfl,hro,⟨KB,HM.o⟩,by rw[kE];omega,hb⟩
theorem Hy(l:List (Int × Int))(n:Int)(h:dI l=true):Gp l n=kO l n:=by
 unfold Gp kO;rw[mN,nh,nh];unfold dI at h;rw[eL]at h;constructor
 ·rintro⟨p,hp,hh⟩;simp at hh;exact⟨p,hp,TcS⟩
 rintro⟨p,hp,hh⟩;simp at hh;exact⟨p,hp,by simp[h p hp];omega⟩
theorem Ik(w:World)(B:Nat)(v vx:Value)(l m:List (Int × Int))(ty:TypeId)(hown:bM w B v l)(hx:xo w vx m)(hlen:l.length+m.length<=100000000)(hB:B<=w.heap.size) :
  ∃v' w',(Builtin.append_ #[65,65] ty #[v,vx]).run prog w=.ok v' w'/\bM w' B v' (l++m)/\w.grownBy w' v.ownBlock:=by
 obtain⟨i0,hi,hz0,hz1,hz2⟩:=gg DT;obtain⟨p,cap,rfl,hlc,ij,hp⟩:=hx;cases p with
 |none =>
  have hm:m=[]:=by
   cases m with
   |nil=>rfl
   |cons a m=>obtain⟨b,off,e,_⟩:=hp TcO;cases e
  subst hm;refine⟨v,w,?_,by simpa using hown,⟨rfl,rfl,rfl,bk _,fun _ _ _=>rfl⟩⟩;rcases hown.2 with⟨rfl,hn⟩|⟨g,cap',cur,rfl,_,_,vr,_⟩
  ·simp[Builtin.append_,tU underlying65,sizeOf,typeInfo,hi,Builtin.lenOf,Builtin.firstCells]
  simp[Builtin.append_,tU underlying65,sizeOf,typeInfo,hi,Builtin.lenOf,Builtin.firstCells,vr,storeCells]
 |some a =>
  by_cases h0:0<m.length
  ·obtain⟨b,off,e,hb,hc⟩:=hp h0
   cases e
   obtain⟨v',w',hr,ho',hg,_⟩:=run_append_own (P:=prog) w B 65 ty 93 i0 _ 2 16 underlying65 hi hz0 hz1 hz2 rfl TcQ v l.length (bU l) hown ⟨b,off,none⟩ m.length cap (bU m) (dx m) (fun j u hu=>by
    rw[iz];have hj:j<m.length*2:=by rw[<- dx];exact(List.getElem?_eq_some_iff.1 hu).1
    obtain⟨p,hp⟩:=De m (j/2) TcN;have h1:=kr m (j/2) p hp;have h2:=hc (j/2) p hp;rcases Nat.mod_two_eq_zero_or_one j with hm|hm
    ·have e:j/2*2=j:=by omega
     rw[e]at h1 h2;rw[h1.1]at hu;rw[h2.1,hu]
    have e:j/2*2+1=j:=by omega
    rw[e]at h1;rw[h1.2]at hu;rw[<- hu,<- h2.2,Nat.add_assoc,e]) (qI _) TcW TcN hB
   refine⟨v',w',hr,?_,hg⟩;unfold bM;rw[gJ,cD];exact ho'
  have hm:m=[]:=fX TcN;subst hm;obtain⟨v',w',hr,ho',hg,_⟩:=run_append_own (P:=prog) w B 65 ty 93 i0 _ 2 16 underlying65 hi hz0 hz1 hz2 rfl TcQ v l.length (bU l) hown a 0 cap [] rfl (fun j u hu=>by simp at hu) (fun u hu=>by cases hu) TcW TcN hB;refine⟨v',w',hr,?_,hg⟩;unfold bM;simpa using ho'
theorem Gu{rest:List Oper}{o:Oper}{a:Act}(hgd:o.guard=none)(s x:Operand)
  (ho:o.op=.call { callee:=.builtin .append,args:=#[s,x],argTypes:=#[65,65] })
  (B:Nat) (v vx:Value) (l m:List (Int × Int)) (hs:a.eval s=v) (hx:a.eval x=vx) (hown:bM w B v l) (kf:xo w vx m) (hlen:l.length+m.length<=100000000) (hB:B<=w.heap.size)
  (h:∀v' w',bM w' B v' (l++m)->Below B w w'->wpList prog ops Q rest (a.put o.dst v') w'):wpList prog ops Q (o :: rest) a w:=by
 obtain⟨v',w',hr,h1,h2⟩:=Ik w B v vx l m o.type hown kf hlen hB;refine wpList_plain hgd fun K hK=>?_;unfold Oper.wp;simp only[execOp,ho,resolve,invoke,builtin,Sem.run_bind,Sem.run_pure,ud,tS,iu,List.map_nil,hs,hx,hr];exact hK _ _ (h v' w' h1 ((bj B w).grown h2 hB (fun k hk=>(hown.lt k hk).1)))
theorem Ig{P:List Int}{l:List (Int × Int)}(hP:Cq P (eU l))(hv:dI l=true):∀t∈P,0<=t/\t<=1073741824:=fun t ht=>by
 have h:=(hP.2 t).1 ht;unfold eU at h;rw[ur]at h;obtain⟨p,hp,h⟩:=h;have:=iF hv p hp;simp at h;rcases h with rfl|rfl<;>omega
theorem Hu(l:List (Int × Int)):∀r∈l,r.1∈eU l/\r.1+r.2∈eU l:=fun r hr=>by
 unfold eU;rw[ur,ur];exact⟨⟨r,hr,TcO⟩,⟨r,hr,TcO⟩⟩
theorem He(a b:List (Int × Int)):dI (a++b)=(dI a&&dI b):=by simp[dI]
def Iz(kind:Int)(x y:Bool):Bool:=(kind==0&&!x&&!y)||(kind==1&&(!x||y))||(kind==2&&(!x||!y))
theorem Il(kind:Int)(h:kind=0\/kind=1\/kind=2)(x y:Bool):Iz kind x y=!GN kind x y:=by
 rcases h with rfl|rfl|rfl<;>cases x<;>cases y<;>rfl
theorem Iu(M:Int)(l:List (Int × Int))(h:Row l)(hb:∀p∈l,0<=p.1/\0<=p.2/\p.1+p.2<=M):∀p∈glue l,0<=p.1/\0<=p.2/\p.1+p.2<=M:=by
 rw[GA l h];have:=CL M l hb l.length (bk _);rw[cI]at this;exact this
def IA(w:World)(S:Int->Prop)(N:Nat)(e:Ending)(w':World):Prop :=
 ∃v x,e=.returned v/\bM w' w.heap.size v x/\iE x S/\dI x=true/\x.length<=N/\Below w.heap.size w w'
theorem TeB{p:Prop}(h:p:=by refine kt (B:=wc.heap.size) ?_ XG.size;(repeat' (first|exact bj _ _|exact bk _|(refine dT ?_ ?_ _)|(refine aT ?_ _)|(refine ee ?_)|(simp;done)|(simp;omega)))):p:=h
theorem Gn(a b:List (Int × Int))(kind:Int)(zE:kind=0\/kind=1\/kind=2)(v1 v2:Value)(w:World)(hr1:xo w v1 a)(hr2:xo w v2 b)(hv1:dI a=true)(hv2:dI b=true)(hl1:a.length<=400000)(hl2:b.length<=400000) :
  Calls prog 68 #[v1,v2,.int .i64 kind] w (IA w (fun n=>GN kind (kO a n) (kO b n)=true) (2*(a.length+b.length))):=by
 have Zx:=aa hv1;have Vn:=aa hv2;have XM:=aa zE;clear hv1 hv2 zE;have RZ:=hr1;have sB:=hr2;obtain⟨pa,ca,rfl,_⟩:=RZ;obtain⟨pb,cb,rfl,_⟩:=sB;have HR1:=aa hr1;have E3:=aa hr2;go_enter func68,ntmps68
 go_wp2_with(at_builtin;refine Gu rfl _ _ rfl w.heap.size _ _ [] a rfl rfl (bM.nil _ _) hr1 TcS (bk _) ?_)
 intro va w1 PT hb1;have Od:bM w1 w.heap.size va a:=by first|exact PT|simpa using PT
 clear hr1 PT;have Th:=hr2.below hb1;clear hr2;go_wp2_with(at_builtin;refine Gu rfl _ _ rfl w.heap.size va _ a b rfl rfl Od Th TcN hb1.size ?_)
 intro vab w2 Ti hb2;have hb02:Below w.heap.size w w2:=hb1.trans hb2;have ra:xo w2 (.slice pa a.length ca) a:=HR1.o.below hb02;have rb:xo w2 (.slice pb b.length cb) b:=E3.o.below hb02;have Tj:dI (a++b)=true:=by rw[He,Zx.o,Vn.o];rfl
 have Tk:=aa Tj;clear Tj Od Th hb1 hb2;go_wp2_with fail;refine(G8 (a++b) vab w2 Ti.rd Tk.o TcS).mono ?_;rintro e w3 ⟨vp,P,rfl,hrp,hP,Pe,hb3⟩;replace ra:=ra.below hb3;replace rb:=rb.below hb3;have hb03:=mn hb02 hb3;have Ps:P.length<=2*(a.length+b.length):=by rw[kE]at Pe;simp at Pe;omega
 have HP:=aa hP;have Kp:=aa (Ig hP Tk.o);clear hP Pe Ti hb3 hb02;obtain⟨qp,cp,rfl,Ui,Sa,Un⟩:=hrp;obtain⟨f,hf⟩:∃f:Int->Bool,f=fun t=>GN kind (Gp a t) (Gp b t):=⟨_,rfl⟩;have HF:=aa hf;clear hf;go_wp2
 go_loopw[7,9] (fun vo vn wr=>∃m:Nat,m<=P.length/\vn=.int .i64 m/\bM wr w3.heap.size vo (glue (Gf (P.take (m+1)) f))/\Below w3.heap.size w3 wr) (fun _ vn _=>P.length-(intOf vn).toNat)
 exact⟨0,cg _,rfl,by rw[Ch];exact bM.nil _ _,bj _ _⟩;obtain⟨m,hm,rfl,hown,hb⟩:=hrel;obtain⟨o,ho⟩:∃o,o=glue (Gf (P.take (m+1)) f):=⟨_,rfl⟩;rw[<- ho]at hown
 have hol:o.length<=2*(a.length+b.length):=by
  rw[ho];have h1:=Io (Gf (P.take (m+1)) f);have h2:=wJ f (P.take (m+1));simp at h2;omega
 have fL:=GH f (P.take (m+1)) (HP.o.1.sublist (List.take_sublist _ _));have aq2:∀p∈o,0<=p.1/\0<=p.2/\p.1+p.2<=1073741824:=by
  rw[ho];refine Iu 1073741824 _ fL (fun r hr=>?_);have h1:=uq f (P.take (m+1)) (HP.o.1.sublist (List.take_sublist _ _)) r hr;have h2:=Kp.o _ (tR h1.1);have h3:=Kp.o _ (tR h1.2.1);omega
 have HO:=aa ho;clear ho fL;by_cases hlt:m+1<P.length
 ·obtain⟨bp,PC,rfl,as8,Mq⟩:=Un TcN;obtain⟨t,ht⟩:=aj P m TcN;obtain⟨t2,ht2⟩:=aj P (m+1) hlt;have cX:bp<wr.heap.size:=cC as8 hb.size;have PU:=(Mq.below hb as8) m t ht;have Ow:=(Mq.below hb as8) (m+1) t2 ht2;have Wy:=aG cX PU;obtain⟨ht0,ht1⟩:=Kp.o t (ct ht);obtain⟨ht20,ht21⟩:=Kp.o t2 (ct ht2);have Nh:t<t2:=by
   exact Tbk
  have HT:=aa ht;have HT2:=aa ht2;have RA:=aa (fun(q:fo)=>(ra.below hb).below (dQ wr q));have RB:=aa (fun(q:fo)=>(rb.below hb).below (dQ wr q));have yq:=tu P f m t t2 HT.o HT2.o;have Oi:f t=GN kind (Gp a t) (Gp b t):=by rw[HF.o]
  have B6:=aa yq;have DG:=aa Oi;clear ht ht2 Mq Un yq Oi;have hd22:decide ((m:Int)+1<(P.length:Int))=true:=by simp;omega
  have hml:m<P.length:=by omega
  go_wp2_with fail;(refine aU TcP TcP ?_;(repeat(go_big_quiet_step ((first|(go_at_call_of 109 (Value.slice pa a.length ca);exact iH (Gz a t _ _ TcN (RA.o _)))|(go_at_call_of 109 (Value.slice pb b.length cb);exact iH (Gz b t _ _ TcN (RB.o _)))))));(with_reducible refine fR ?_);intro wq ia;have kq:=dY ia;clear ia)
  have C0:=hown.below kq;have XG:=mn hb kq;have ae6:=(kq.cell (p:=⟨bp,PC+m,none⟩) cX).trans PU;have Zp:=(kq.cell (p:=⟨bp,PC+(m+1),none⟩) cX).trans Ow;clear hown Wy PU Ow hb RA RB;generalize R1:Gp a t=xa at *;generalize qu:Gp b t=xb at *;clear R1 qu;go_upto_region 7 with fail
  go_cut[69] (fun v wc=>v=.bool (Iz kind xa xb)/\wc=wq)
  case first =>
   rcases XM.o with rfl|rfl|rfl
   all_goals
    cases xa<;>cases xb
    all_goals
     go_wp2;go_meet;exact⟨rfl,by first|rfl|trivial⟩
  case rest =>
   obtain⟨rfl,rfl⟩:=hcut;rw[Il kind XM.o,<- DG.o];cases Oi:f t
   ·have yq:glue (Gf (P.take (m+1+1)) f)=o:=by rw[B6.o,Oi,HO.o];simp
    have aE3:=aa yq;clear yq;go_wp2;go_roundw;exact⟨m+1,TcN,TcR,by rw[aE3.o];exact C0,XG⟩;simp[intOf];omega
   have yq:glue (Gf (P.take (m+1+1)) f)=qz o (t,t2-t):=by rw[B6.o,Oi,HO.o];simp only[ej];exact Gx _ _
   have aE3:=aa yq;clear yq;rcases List.eq_nil_or_concat o with rfl|⟨i,q,rfl⟩
   ·obtain⟨p3,cap3,rfl,_,_,_⟩:=C0.rd;go_wp2;go_quiet (fail);go_wp2
    (refine uk _ 16 TcP rfl rfl TcP TcP (fun _ _ _ _ h=>h) TdT ?_;simp only[xi,iv,cQ,cL];(repeat(go_big_quiet_step (fail)));(with_reducible refine fR ?_);intro wq ia;obtain⟨nq,ia⟩:=ia;subst ia)
    go_wp2_with(at_builtin;refine jg rfl _ _ rfl w3.heap.size _ [] (t,t2-t) rfl ?c1 wc.heap.size 1 rfl ?c2 ?c3 TcO ?c4 ?_)
    case c1=>refine C0.below ?_;(repeat' (first|exact bj _ _|exact bk _|(refine dT ?_ ?_ _)|(refine aT ?_ _)|(refine ee ?_)|(simp;done)|(simp;omega)))
    try(case c2=>exact aD TcO rfl)
    try(case c3=>exact aD TcO rfl)
    case c4=>have:=XG.size;simp;omega
    intro v8 w8 ho8 hb8 _;have hb9:Below w3.heap.size w3 w8:=(XG.trans TeB).trans hb8;clear hb8 C0;go_wp2;go_roundw;exact⟨m+1,TcN,TcR,by rw[aE3.o];exact ho8,hb9⟩;simp[intOf];omega
   simp only[List.concat_eq_append]at *;have hq:=aq2 q TcO;obtain⟨hq0,hq1,hq2⟩:=hq;clear aq2;obtain⟨g,cap3,rfl,TR,ye,hgc,hgm,Vq,Vr,Yi,hst⟩:=C0.last;have hil:i.length+1<=10000000:=by simp at hol;omega
   clear hst;by_cases he:q.1+q.2=t
   ·have Qu:(q.1+q.2==t)=true:=by simp[he]
    have K2:qz (i++[q]) (t,t2-t)=i++[(q.1,q.2+(t2-t))]:=by
     unfold qz;simp[he]
    have Qz:=aa K2;have HE:=aa he;clear K2 he;go_wp2;go_quiet (fail);go_wp2
    (refine il 19 TcP TcP ?_;simp only[xi,iv,cQ,cL];(repeat(go_big_quiet_step (fail)));(with_reducible refine fR ?_);intro wq ia;obtain⟨nq,ia⟩:=ia;subst ia)
    go_wp2;go_roundw
    case rel =>
     refine⟨m+1,TcN,TcR,?_,?_⟩
     ·rw[aE3.o,Qz.o];refine bM.setLast ?_ _;refine C0.below ?_;exact TbB
     refine Below.setCell ?_ (by exact TR) _;refine XG.trans ?_;refine kt (B:=wc.heap.size) ?_ XG.size;exact TbB
    simp[intOf];omega
   have Qu:(q.1+q.2==t)=false:=by simp[he]
   have K2:qz (i++[q]) (t,t2-t)=i++[q]++[(t,t2-t)]:=by
    unfold qz;simp[he]
   have Qz:=aa K2;clear K2 he;go_wp2;go_quiet (fail);go_wp2
   (refine uk _ 16 TcP rfl rfl TcP TcP (fun _ _ _ _ h=>h) TdT ?_;simp only[xi,iv,cQ,cL];(repeat(go_big_quiet_step (fail)));(with_reducible refine fR ?_);intro wq ia;obtain⟨nq,ia⟩:=ia;subst ia)
   go_wp2_with(at_builtin;refine jg rfl _ _ rfl w3.heap.size _ (i++[q]) (t,t2-t) rfl ?c1 wc.heap.size 1 rfl ?c2 ?c3 TcS ?c4 ?_)
   case c1=>refine C0.below ?_;(repeat' (first|exact bj _ _|exact bk _|(refine dT ?_ ?_ _)|(refine aT ?_ _)|(refine ee ?_)|(simp;done)|(simp;omega)))
   try(case c2=>exact aD TcO rfl)
   try(case c3=>exact aD TcO rfl)
   case c4=>have:=XG.size;simp;omega
   intro v8 w8 ho8 hb8 _;have hb9:Below w3.heap.size w3 w8:=(XG.trans TeB).trans hb8;clear hb8 C0;go_wp2;go_roundw;exact⟨m+1,TcN,TcR,by rw[aE3.o,Qz.o];first|exact ho8|simpa using ho8,hb9⟩;simp[intOf];omega
 have hd22:decide ((m:Int)+1<(P.length:Int))=false:=by simp;omega
 have yq:glue (Gf P f)=o:=by
  have:=HO.o;rw[jz TcN]at this;exact this.symm
 have gw:=GX P f HP.o.1;rw[yq]at gw;have j9:=aa gw;have XN:=aa aq2;clear yq gw aq2;go_wp2;go_ret;have Ur:iE o fun n=>GN kind (kO a n) (kO b n)=true:=by
  refine⟨j9.o.1,fun n=>(j9.o.2 n).trans ?_⟩;have hff:f=fun t=>GN kind (kO a t) (kO b t):=by
   rw[HF.o];funext t
   rw[Hy a t Zx.o,Hy b t Vn.o]
  rw[hff];refine xD a b (GN kind) (by rcases XM.o with rfl|rfl|rfl<;>rfl) P HP.o.1 (fun r hr=>?_) n;have:=Hu (a++b) r (by rw[oT];exact hr);exact⟨(HP.o.2 _).2 this.1,(HP.o.2 _).2 this.2⟩
 refine⟨_,o,rfl,hown.mono hb03.size,Ur,?_,hol,mn hb03 hb⟩;unfold dI;rw[eL];intro r hr;have:=XN.o r hr;unfold nT;simp;omega
def Ek(n m:Int):Bool:=decide (1<=n)&&decide (n<=m)
def Dr(r:aY):Bool:=Ek r.Gi 6&&Ek r.Gh 6&&decide (r.Gi*r.Gh<=6)&&Ek r.Gc 4096
def OC(r:aY):Bool:=r.Gg==2||r.Gg==3
def xM(g:af)(r:aY):Bool:=if r.near.toList.isEmpty then !OC r else(aM g.F9 r.near).isSome
def eu(s:ByteArray):Bool:=s.toList.isEmpty||mr s
def yZ(g:af)(r:aY):Int:=if Dr r=false then 1 else if Ek r.Gg 5=false then 17 else if xM g r=false then 12 else if(eu r.tag&&eu r.sep)=false then 2 else 0
def kP(g:af)(r:aY):Int:=if(mchk g).2=0 then yZ g r else(mchk g).2
theorem uT(n m:Int)(w:World) :
  Calls prog 44 #[.int .i64 n,.int .i64 m] w fun e w'=>e=.returned (.bool (Ek n m))/\w=w':=by
 go_enter func44,ntmps44
 by_cases h1:1<=n
 ·by_cases h2:n<=m
  ·go_wp2;go_ret;exact⟨ah (by simp[Ek,h1,h2]),rfl⟩
  go_wp2;go_ret;exact⟨ah (by simp[Ek,h2]),rfl⟩
 go_wp2;go_ret;exact⟨ah (by rw[Ek,cN (by omega:¬1<=n)];rfl),rfl⟩
theorem ry(s:ByteArray)(w:World)(hs:s.size<=9223372036854775807):Calls prog 45 #[.string s] w fun e w'=>e=.returned (.bool (mr s))/\Below w.heap.size w w':=Af s w hs
def Taj(x0:aY):Tab #[.int .i64 x0.Gi,.int .i64 x0.Gh,.int .i64 x0.Gc,.int .i64 x0.Gg,.string x0.tag,.string x0.near,.string x0.sep]:=⟨⟩
structure jF(w:World)(Bg Br:Nat)(g:af)(a:bN)(r:aY):Prop where
 g:w.heap[Bg]?=some (.cells (Tad g a) 32 (0,0))
 r:w.heap[Br]?=some (.cells (Taj r) 24 (0,0))
theorem jF.below{w':World}(h:jF w Bg Br g a r)(hb:Below w.heap.size w w'):jF w' Bg Br g a r :=
 ⟨(hb.block _ (aq h.g)).trans h.g,(hb.block _ (aq h.r)).trans h.r⟩
theorem jF.gc(h:jF w Bg Br g a r)(i:Nat)(z:Value)(hz:[.string g.name,.int .u64 g.id,.int .i64 g.seq,.int .i64 g.Gd,.int .i64 g.next,.slice a.tp g.tags.length a.tc,.slice a.dp g.Gb.length a.dc,.slice a.vp g.F9.length a.vc,.slice a.hp g.history.length a.hc][i]?=some z):w.cell? (Bg,i)=some z:=by
 simp only[World.cell?,h.g];simpa using hz
theorem jF.rc(h:jF w Bg Br g a r)(i:Nat)(z:Value)(hz:[.int .i64 r.Gi,.int .i64 r.Gh,.int .i64 r.Gc,.int .i64 r.Gg,.string r.tag,.string r.near,.string r.sep][i]?=some z):w.cell? (Br,i)=some z:=by
 simp only[World.cell?,h.r];simpa using hz
def FY(n:Int)(w:World)(e:Ending)(w':World):Prop:=e=.returned (.int .i64 n)/\Below w.heap.size w w'
noncomputable def gF(g:af)(r:aY):List ByteArray:=if r.near.toList.isEmpty then [] else sP g r.near
def kR(g:af)(l:List ByteArray):List ByteArray:=l.flatMap fun nm=>((bH g.Gb nm).getD gT).tags
def jV(d:az):Bool:=!d.closed&&!d.missing
def jG(tag:ByteArray)(d:az):Bool:=tag.toList.isEmpty||bI d.tags tag
def nN(near:List ByteArray)(p:Int)(d:az):Bool:=!(p==2)||bI near d.name
def vE(near tags:List ByteArray)(p:Int)(d:az):Bool:=!(p==3)||(bI near d.name||d.tags.any (bI tags))
def iD(near tags:List ByteArray)(r:aY)(d:az):Bool:=jV d&&(jG r.tag d&&(nN near r.Gg d&&vE near tags r.Gg d))
noncomputable def nD(g:af)(r:aY)(d:az):Bool:=iD (gF g r) (kR g (gF g r)) r d
def xy(g:af)(d:az)(n:Int):Prop:=(0<=n/\n<d.Gc)/\¬Mem (fM d.name d.Gc (pieces g.F9)) n
def qN(s:aB):List (ByteArray × Int):=s.Ga.map fun a=>(a.on,a.start+iB s.kind s.length s.Ga.length)
def oZ(l:List aB):List (ByteArray × Int):=match l.getLast? with
 |some s=>if s.kind=1\/s.kind=2 then qN s else []
 |none=>[]
def jE(g:af)(nm:ByteArray):List (ByteArray × Int):=oZ ((aM g.F9 nm).getD eY).Gf
def su(nm:ByteArray)(e:ByteArray × Int)(x:List (Int × Int)):List (Int × Int):=x.filterMap fun r=>if e.1=nm/\r.1<=e.2/\e.2<r.1+r.2 then some (e.2,r.1+r.2-e.2) else none
def mQ(ends:List (ByteArray × Int))(nm:ByteArray)(x:List (Int × Int)):List (Int × Int):=ends.flatMap fun e=>su nm e x
def uM(r:aY):Bool:=r.Gg==1&&!r.near.toList.isEmpty
def kI(g:af)(r:aY)(d:az)(n:Int):Prop:=nD g r d=true/\if uM r=true then ∃x,iE x (xy g d)/\Mem (mQ (jE g r.near) d.name x) n else xy g d n
theorem CY{e:ByteArray × Int}(h:p∈su nm e x):e.1=nm/\p.1=e.2/\∃r∈x,r.1<=e.2/\e.2<r.1+r.2/\p.2=r.1+r.2-e.2:=by
 obtain⟨r,hr,hp⟩:=List.mem_filterMap.1 h;split at hp
 ·rename_i c;injection hp with hp;subst hp;exact⟨c.1,rfl,r,hr,c.2.1,c.2.2,rfl⟩
 cases hp
theorem Dl(h:p∈mQ ends nm x):∃e∈ends,e.1=nm/\p.1=e.2/\∃r∈x,r.1<=e.2/\e.2<r.1+r.2/\p.2=r.1+r.2-e.2:=by
 obtain⟨e,he,hp⟩:=List.mem_flatMap.1 h;exact⟨e,he,CY hp⟩
theorem xS(h:∀p∈x,0<=p.1/\1<=p.2/\p.1+p.2<=1073741824):dI (mQ ends nm x)=true:=by
 unfold dI;rw[eL];intro p hp;obtain⟨e,-,-,h3,r,hr,h4,h5,h6⟩:=Dl hp;have:=h r hr;simp only[nT,eh,fk];omega
theorem wT(nm:ByteArray)(e:ByteArray × Int)(x:List (Int × Int)):(su nm e x).length<=x.length:=List.length_filterMap_le _ _
theorem Dj(ends:List (ByteArray × Int))(nm:ByteArray)(x:List (Int × Int)):(mQ ends nm x).length<=ends.length*x.length:=lY _ _ _ fun e _=>wT nm e x
theorem Cc(s:aB):(qN s).length<=s.Ga.length:=by
 unfold qN;rw[fW];exact bk _
theorem mem_of_getLast?{α:Type}:∀ {l:List α} {x:α},l.getLast?=some x->x∈l
 |[],_,h=>by cases h
 |a :: l,x,h=>by
  rw[List.getLast?_eq_getElem?]at h;exact ct h
theorem Bu{l:List aB}{m:Nat}(h:∀s∈l,s.Ga.length<=m):(oZ l).length<=m:=by
 unfold oZ;split
 ·rename_i s hs;split
  ·exact cA (Cc s) (h s (mem_of_getLast? hs))
  simp
 simp
theorem D6(h:kP g r=0):(mchk g).2=0/\yZ g r=0:=by
 unfold kP at h;split at h
 ·rename_i hm;exact⟨hm,h⟩
 rename_i hm;exact absurd h hm
def iI(b:Bool)(w:World)(e:Ending)(w':World):Prop:=e=.returned (.bool b)/\Below w.heap.size w w'
def Tao(x0:aY)(x1:Nat)(x2:Option Addr)(x3:Nat)(x4:Nat)(x5:Option Addr)(x6:Nat):Tab #[.int .i64 x0.Gi,.int .i64 x0.Gh,.int .i64 x0.Gc,.int .i64 x0.Gg,.string x0.tag,.string x0.near,.string x0.sep,.slice x2 x1 x3,.slice x5 x4 x6]:=⟨⟩
structure BC(w:World)(Bj Bd:Nat)(r:aY)(np jp:Option Addr)(nc jc:Nat)(nl jl:List ByteArray)(d:az)(tp:Option Addr)(tc:Nat):Prop where
 j:w.heap[Bj]?=some (.cells (Tao r nl.length np nc jl.length jp jc) 67 (0,0))
 d:w.heap[Bd]?=some (.cells (Tah d tp tc) 39 (0,0))
theorem BC.jc{jc:Nat}(h:BC w Bj Bd r np jp nc jc nl jl d tp tc)(i:Nat)(z:Value)(hz:[.int .i64 r.Gi,.int .i64 r.Gh,.int .i64 r.Gc,.int .i64 r.Gg,.string r.tag,.string r.near,.string r.sep,.slice np nl.length nc,.slice jp jl.length jc][i]?=some z):w.cell? (Bj,i)=some z:=by
 simp only[World.cell?,h.j];simpa using hz
theorem BC.dc{jc:Nat}(h:BC w Bj Bd r np jp nc jc nl jl d tp tc)(i:Nat)(z:Value)(hz:[.string d.name,.int .u64 d.id,.int .i64 d.first,.int .i64 d.Gc,.bool d.closed,.bool d.missing,.slice tp d.tags.length tc][i]?=some z):w.cell? (Bd,i)=some z:=by
 simp only[World.cell?,h.d];simpa using hz
theorem nM(w:World)(r:aY)(np jp:Option Addr)(nc jc:Nat)(nl jl:List ByteArray)(d:az)(tp:Option Addr)(tc:Nat) :
  BC ((w.alloc (.cells (Tao r nl.length np nc jl.length jp jc) 67)).alloc (.cells (Tah d tp tc) 39)) w.heap.size (w.heap.size+1) r np jp nc jc nl jl d tp tc /\
   Below w.heap.size w ((w.alloc (.cells (Tao r nl.length np nc jl.length jp jc) 67)).alloc (.cells (Tah d tp tc) 39)):=by
 have hA1:=ae w (.cells (Tao r nl.length np nc jl.length jp jc) 67);have hA2:=ae (w.alloc (.cells (Tao r nl.length np nc jl.length jp jc) 67)) (.cells (Tah d tp tc) 39);have hN1:=b9 w (.cells (Tao r nl.length np nc jl.length jp jc) 67);have hN2:=b9 (w.alloc (.cells (Tao r nl.length np nc jl.length jp jc) 67)) (.cells (Tah d tp tc) 39);rw[cW]at hN2;exact⟨⟨(hA2.block _ (aq hN1)).trans hN1,hN2⟩,hA1.trans (hA2.mono hA1.size)⟩
theorem AX(r:aY)(np jp:Option Addr)(nc jc:Nat)(nl jl:List ByteArray)(d:az)(tp:Option Addr)(tc:Nat)(w:World) :
  Calls prog 25 #[.agg (Tao r nl.length np nc jl.length jp jc),.agg (Tah d tp tc)] w (iI (jV d) w):=by
 obtain⟨hat,hb⟩:=nM w r np jp nc jc nl jl d tp tc;have Fm:=aa hat;clear hat;have HB:=aa hb;clear hb;have HR:Hid (jV d=(!d.closed&&!d.missing)):=aa rfl;go_enter func25,ntmps25
 go_upto_region 1 with(fail);generalize hW1:World.alloc (World.alloc w _) _=W1 at *;clear hW1;have dL:=Fm.o.dc;obtain⟨d0,d1,d2,d3,d4,d5,d6⟩:=se dL;clear dL;cases hc:d.closed with
 |true =>
  rw[hc]at d4 HR;go_wp2;go_ret;exact⟨Tc1,HB.o⟩
 |false =>
  rw[hc]at d4 HR;cases hm:d.missing with
  |true =>
   rw[hm]at d5 HR;go_wp2;go_ret;exact⟨Tc1,HB.o⟩
  |false =>
   rw[hm]at d5 HR;go_wp2;go_ret;exact⟨Tc1,HB.o⟩
theorem zl{ok:Nat->Prop}(r:aY)(np jp:Option Addr)(nc jc:Nat)(nl jl:List ByteArray)(d:az)(tp:Option Addr)(tc:Nat)(w:World)(ht:b6 aF 1 ok w [.slice tp d.tags.length tc] d.tags)(nt:d.tags.length<=1000000) :
  Calls prog 26 #[.agg (Tao r nl.length np nc jl.length jp jc),.agg (Tah d tp tc)] w (iI (jG r.tag d) w):=by
 obtain⟨hat,hb⟩:=nM w r np jp nc jc nl jl d tp tc;have Fm:=aa hat;clear hat;have HB:=aa hb;clear hb;have HT:=aa ((b6.moves aF.moves).mv (Mv.of HB.o) ht);clear ht;have HR:Hid (jG r.tag d=(r.tag.toList.isEmpty||bI d.tags r.tag)):=aa rfl;go_enter func26,ntmps26
 go_upto_region 1 with(fail);generalize hW1:World.alloc (World.alloc w _) _=W1 at *;clear hW1;have dL:=Fm.o.dc;have d6:=dL 6 _ rfl;clear dL;have jL:=Fm.o.jc;have j4:=jL 4 _ rfl;clear jL;have HC:=aa (eT d.tags r.tag _ W1 HT.o nt);clear HT;cases PE:r.tag.toList.isEmpty with
 |true =>
  rw[PE]at HR;go_wp2;go_ret;exact⟨Tc1,HB.o⟩
 |false =>
  rw[PE]at HR;go_wp2_with(refine HC.o.mono ?_;rintro e w5 ⟨rfl,rfl⟩)
  go_ret;exact⟨Tc1,HB.o⟩
theorem yM{ok:Nat->Prop}(r:aY)(np jp:Option Addr)(nc jc:Nat)(nl jl:List ByteArray)(d:az)(tp:Option Addr)(tc:Nat)(w:World)(hn:b6 aF 1 ok w [.slice np nl.length nc] nl)(zr:nl.length<=1000000) :
  Calls prog 27 #[.agg (Tao r nl.length np nc jl.length jp jc),.agg (Tah d tp tc)] w (iI (nN nl r.Gg d) w):=by
 obtain⟨hat,hb⟩:=nM w r np jp nc jc nl jl d tp tc;have Fm:=aa hat;clear hat;have HB:=aa hb;clear hb;have HT:=aa ((b6.moves aF.moves).mv (Mv.of HB.o) hn);clear hn;have HR:Hid (nN nl r.Gg d=(!(r.Gg==2)||bI nl d.name)):=aa rfl;go_enter func27,ntmps27
 go_upto_region 1 with(fail);generalize hW1:World.alloc (World.alloc w _) _=W1 at *;clear hW1;have dL:=Fm.o.dc;have d0:=dL 0 _ rfl;clear dL;have jL:=Fm.o.jc;have j3:=jL 3 _ rfl;have j7:=jL 7 _ rfl;clear jL;have HC:=aa (eT nl d.name _ W1 HT.o zr);clear HT;cases hp:(r.Gg==2)with
 |false =>
  have hpn:(r.Gg != 2)=true:=by simpa[bne]using hp
  rw[hp]at HR;go_wp2;go_ret;exact⟨Tc1,HB.o⟩
 |true =>
  have hpn:(r.Gg != 2)=false:=by simpa[bne]using hp
  rw[hp]at HR;go_wp2_with(refine HC.o.mono ?_;rintro e w5 ⟨rfl,rfl⟩)
  go_ret;exact⟨Tc1,HB.o⟩
theorem Js{ok:Nat->Prop}(x:ByteArray)(Bj:Nat)(jp:Option Addr)(jc:Nat)(jl:List ByteArray)(w:World)(h8:w.cell? (Tac Bj 8)=some (.slice jp jl.length jc))(hj:b6 aF 1 ok w [.slice jp jl.length jc] jl)(vt:jl.length<=1000000) :
  Calls prog 55 #[.string x,.pointer (some Bj)] w fun e w'=>e=.returned (.bool (bI jl x))/\w=w':=by
 have HC:=aa (eT jl x _ w hj vt);clear hj;go_enter func55,ntmps55
 go_wp2_with(refine HC.o.mono ?_;rintro e w5 ⟨rfl,rfl⟩)
 go_ret;exact⟨rfl,rfl⟩
theorem pG{ok:Nat->Prop}(l:List ByteArray)(v:Value)(Bj:Nat)(jp:Option Addr)(jc:Nat)(jl:List ByteArray)(w:World)(h:b6 aF 1 ok w [v] l)(hl:l.length<=1000000)(h8:w.cell? (Tac Bj 8)=some (.slice jp jl.length jc))(hj:b6 aF 1 ok' w [.slice jp jl.length jc] jl)(vt:jl.length<=1000000) :
  Calls prog 98 #[v,.func (.func 55) #[] #[.pointer (some Bj)]] w fun e w'=>(∃r:Int,e=.returned (.int .i64 r)/\decide (0<=r)=l.any (bI jl))/\w=w':=by
 obtain⟨p,cap,rfl,hc1,hc2⟩:=h.cap;have HH:=aa h;clear h;have HC:=aa (fun x=>Js (ok:=ok') x Bj jp jc jl w h8 hj vt);clear h8 hj vt;go_enter func98,ntmps98;go_wp2
 go_loop[8,5] (fun i _=>∃k:Nat,k<=l.length/\i=.int .i64 k/\(l.take k).any (bI jl)=false) (fun i _=>l.length-(intOf i).toNat)
 exact⟨0,cg _,rfl,rfl⟩;obtain⟨k,hk,rfl,hall⟩:=hrel;have cE:=aa hall;clear hall;by_cases hlt:k<l.length
 ·obtain⟨y,hy⟩:=aj l k hlt;obtain⟨b,off,us,rfl,gR,cX,ez,eE,hcv⟩:=HH.o.elem hy;obtain rfl:us=_:=eE;have q0:=hcv 0 _ rfl;rw[fp,fg]at q0;have ap1:Hid ((l.take (k+1)).any (bI jl)=bI jl y):=aa (by rw[take_snoc' l k y hy,rj,cE.o];simp);have AE:Hid (bI jl y=true->l.any (bI jl)=true):=aa fun h=>List.any_eq_true.2 ⟨y,ct hy,h⟩;clear hy cE hcv ez;have Us:=aa (HC.o y);cases hs:bI jl y with
  |true =>
   rw[hs]at Us;have HR:=aa (AE.o hs);clear hs;go_wp2_with(refine Us.o.mono ?_;rintro e w5 ⟨rfl,rfl⟩)
   go_ret;exact⟨⟨k,rfl,by rw[HR.o];simp⟩,rfl⟩
  |false =>
   rw[hs]at Us;have HR:=aa (ap1.o.trans hs);clear hs;go_wp2_with(refine Us.o.mono ?_;rintro e w5 ⟨rfl,rfl⟩)
   go_round;exact⟨k+1,TcN,TcR,HR.o⟩;simp[intOf];omega
 exact TbS
theorem mg{ok:Nat->Prop}(l:List ByteArray)(v:Value)(Bj:Nat)(jp:Option Addr)(jc:Nat)(jl:List ByteArray)(w:World)(h:b6 aF 1 ok w [v] l)(hl:l.length<=1000000)(h8:w.cell? (Tac Bj 8)=some (.slice jp jl.length jc))(hj:b6 aF 1 ok' w [.slice jp jl.length jc] jl)(vt:jl.length<=1000000) :
  Calls prog 54 #[v,.func (.func 55) #[] #[.pointer (some Bj)]] w fun e w'=>e=.returned (.bool (l.any (bI jl)))/\w=w':=by
 go_enter func54,ntmps54
 go_wp2_with fail;refine(pG (ok:=ok) (ok':=ok') l v Bj jp jc jl w h hl h8 hj vt).mono ?_;exact TbY
theorem ym{ok ok2:Nat->Prop}(r:aY)(np jp:Option Addr)(nc jc:Nat)(nl jl:List ByteArray)(d:az)(tp:Option Addr)(tc:Nat)(w:World)(hn:b6 aF 1 ok w [.slice np nl.length nc] nl)(zr:nl.length<=1000000)(ht:b6 aF 1 ok' w [.slice tp d.tags.length tc] d.tags)(nt:d.tags.length<=1000000)(hj:b6 aF 1 ok2 w [.slice jp jl.length jc] jl)(vt:jl.length<=1000000) :
  Calls prog 28 #[.agg (Tao r nl.length np nc jl.length jp jc),.agg (Tah d tp tc)] w (iI (vE nl jl r.Gg d) w):=by
 obtain⟨hat,hb⟩:=nM w r np jp nc jc nl jl d tp tc;have Fm:=aa hat;clear hat;have HB:=aa hb;clear hb;have HN:=aa ((b6.moves aF.moves).mv (Mv.of HB.o) hn);clear hn;have HT:=aa ((b6.moves aF.moves).mv (Mv.of HB.o) ht);clear ht;have HJ:=aa ((b6.moves aF.moves).mv (Mv.of HB.o) hj);clear hj;have HR:Hid (vE nl jl r.Gg d=(!(r.Gg==3)||(bI nl d.name||d.tags.any (bI jl)))):=aa rfl;go_enter func28,ntmps28
 go_upto_region 1 with(fail);generalize hW1:World.alloc (World.alloc w _) _=W1 at *;clear hW1;have dL:=Fm.o.dc;have d0:=dL 0 _ rfl;have d6:=dL 6 _ rfl;clear dL;have jL:=Fm.o.jc;have j3:=jL 3 _ rfl;have j7:=jL 7 _ rfl;have j8:=jL 8 _ rfl;clear jL;have HC:=aa (eT nl d.name _ W1 HN.o zr);have HD:=aa (mg d.tags _ w.heap.size jp jc jl W1 HT.o nt j8 HJ.o vt);clear HN HT HJ j8;cases hp:(r.Gg==3)with
 |false =>
  have hpn:(r.Gg != 3)=true:=by simpa[bne]using hp
  rw[hp]at HR;go_wp2;go_ret;exact⟨Tc1,HB.o⟩
 |true =>
  have hpn:(r.Gg != 3)=false:=by simpa[bne]using hp
  rw[hp]at HR;cases hh:bI nl d.name with
  |true =>
   rw[hh]at HC HR;go_wp2_with(refine HC.o.mono ?_;rintro e w5 ⟨rfl,rfl⟩)
   go_ret;exact⟨Tc1,HB.o⟩
  |false =>
   rw[hh]at HC HR;go_wp2_with(first|(refine HC.o.mono ?_;rintro e w5 ⟨rfl,rfl⟩)|(refine HD.o.mono ?_;rintro e w5 ⟨rfl,rfl⟩))
   go_ret;exact⟨Tc1,HB.o⟩
end Go.Proofs.YtillcmhjhajimaaGreatDoor
