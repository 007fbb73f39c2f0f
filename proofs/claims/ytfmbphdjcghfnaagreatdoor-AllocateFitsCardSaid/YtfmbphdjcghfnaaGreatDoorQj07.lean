/- Lemmas: RgL, RefA, RefB, RanH, RefC, PolA, PolS, PolB, PolC, PolD, PolE, MoJ, MoS, MoL, MoF, MoI, MoK, MoN, MoP. -/
import Derived.Test.YtfmbphdjcghfnaaGreatDoorQj06
import Derived.Laws.AppendOwnNone
set_option maxRecDepth 100000
set_option maxHeartbeats 32000000
set_option linter.all false
open List renaming length→Wq,all_eq_true→An,mem_map→As,getElem?_eq_some_iff→AT,mem_append→AS,mem_cons→DQ,pairwise_cons→IN,mem_flatMap→BY,any_eq_true→GP,mem_range→DP,any_eq_false→IS
open Go.World renaming alloc→AI,cell?→AN
open Go.Value renaming int→Bm,slice→FG
open Go.Region renaming wanted→Cd
open Go.IntKind renaming i64→Sj,u64→U8
open Go.Obj renaming cells→Sx
open Go.Value renaming string→By,pointer→SL,bool→Ft,agg→Tk,tuple→Vj
open Go.Ending renaming returned→S6
open Option renaming some→Vv,none→VX
open Bool renaming false→VN,true→VR
open Decidable renaming decide→V7
namespace Go.Proofs.YtfmbphdjcghfnaaGreatDoor
variable{gt:Prop}
open Go.Proofs.Tryz
open Go.RowKit Go.Maps Go.Shelf
variable {a:Act}{g:af}{s:aB}{ops:Array Oper}{w w':H7}{Q:N2}{l:wy aR}{n:Int}{k Bg Br Bj Bd nc tc B B':Nat}{rest:wy Oper}{r:aY}{e:H6 × Int}{x:RU}{p:H5}{ends:wy (H6 × Int)}{α:Type}{d:az}{np jp tp:IH}{nl jl:QN}{ok':LN}{v:zY}{cs:Array zY}{z:Nat × Nat}{xs:wy RU}
def Ia{a b:Int}(h0:0<=a)(h1:a<=10000000)(h2:1<=b)(h3:b<=1024):0<=a*b/\a*b<=10240000000:=by
 have:=tW h1 h3 WQ (show(0:Int)<=10000000 by omega);exact⟨oA h0 WQ,WQ⟩
def JP(h:CX g s=VR) :
  (s.kind=3->(∀a∈s.Ga,dO g a.on=s.length)/\(s.log.toList.isEmpty=VN->1+(BZ g s+63)/64<=dO g s.log*g.Gd)) /\
  (s.kind=4->(∀a∈s.Ga,dO g a.on=dO g (aOn s 0))/\s.length/((Wq s.Ga:Int)-1)*g.Gd+16<=dO g (aOn s 0)*g.Gd) /\
  (s.kind=5->dO g (aOn s 1)=s.length)/\(s.kind=7->dO g (aOn s 0)=s.length):=by
 unfold CX at h;refine⟨fun k=>?_,fun k=>?_,fun k=>?_,fun k=>?_⟩
 ·rw[aw k,eh]at h;refine⟨fun a ha=>by simpa using An.1 h.1 a ha,fun hl=>?_⟩;have:=h.2;unfold Fe at this;rw[hl,nj,fk]at this;rwa[show BZ g s+64-1=BZ g s+63 by omega]at this
 ·rw[bh WQ,aw k,eh]at h;refine⟨fun a ha=>by simpa using An.1 h.1 a ha,?_⟩;have:=h.2;unfold ER at this;simpa using this
 ·rw[bh WQ,bh WQ,aw k]at h;simpa using h
 rw[bh WQ,bh WQ,bh WQ,aw k]at h;simpa using h
def Tbb(h:gt:=by
 clear s2;obtain⟨g0,g1,g2,g3,g4,g5,g6,g7,g8⟩:=Hr ua.o;have HGQ:=aa fun q:fo=>(ck.moves aN.moves).mv (Mv.of (dQ W1 q)) Q5.o.F9;have sL:=mi fl.o;have GF:=aq fl.o;have e1:=aG GF (sL 1 _ lX);have e3:=aG GF (sL 3 _ lX);clear sL GF
 (refine aU Yp Yp ?_;(repeat(go_big_quiet_step ((go_at_call 154;exact iH (Ar g a (HGQ.o _) hz)))));(with_reducible refine fR ?_);intro wqc ia;have av7:=dY ia;clear ia)
 have TF:=YS HB av7;clear av7 g0 g1 g2 g3 g4 g5 g6 g7 g8 e1 e3 q1 hq;go_wp2;go_ret;exact⟨rfl,TF.o⟩):=h
variable{u vs:RH}{v8 vx:zY}{nm:H6}{b m off sz:Nat}{o:Oper}
theorem Kk{ok:LN}(g:af)(a:iX)(s:aB)(w:H7)(hv:bC ok w u s)(hg:dN ok w g a)(hz:JT g)(au:Cu g)(hx:1<=g.Gd/\g.Gd<=1024)(hf:Ah s)(he:CX g s=VR):Calls prog 107 #[Tk (Zg g a),Tk u.toArray] w fun e w'=>e=S6 (Ft VR)/\Below w.1.size w w':=by
 obtain⟨aw,ay,hp5,az⟩:=JP he;have Uh:=aa aw;have aJ:=aa ay;have YB:=aa hp5;have aK:=aa az;have hl0:=hf.fm.l0;have hl1:=hf.fm.l1;have b8:=hf.fm.ar;have aL:=aa hf.fm.p5;have aM:=aa hf.fm.p7;have aO:=aa hf.c3;have aP:=aa hf.a4;have Qc:=aa au;obtain⟨ak,hx2⟩:=hx;clear he aw ay hp5 az hf au;obtain⟨av,Rn,rfl,o0,TG⟩:=hv;obtain⟨ap,ac,rfl,_,_⟩:=o0.cap;obtain⟨eN,eR,rfl,_,_⟩:=TG.cap;replace o0:=aa o0;clear TG;have hA1:=ae w (Sx (Zg g a) 31);have hA2:=ae (w.alloc (Sx (Zg g a) 31)) (Sx (ZN s ap ac eN eR) 55);have US:=b9 w (Sx (Zg g a) 31);have fl:=aa (b9 (w.alloc (Sx (Zg g a) 31)) (Sx (ZN s ap ac eN eR) 55));have ua:=aa ((hA2.block _ (aq US)).trans US);have HB:=aa (hA1.trans (hA2.mono hA1.size));have Q5:=aa (hg.mv (Mv.of HB.o));clear hA1 hA2 US hg;rw[cW]at fl;go_enter func107,ntmps107
 go_upto_region 1 with(fail);generalize AI (AI w _) _=W1 at *;generalize aQ:w.1.size+1=Bs at fl ⊢;generalize aR:w.1.size=Bg at ua ⊢;clear aQ aR;have s2:=mi fl.o 2 _ lX;by_cases h3:s.kind=3
 ·obtain⟨aA,ah⟩:=Uh.o h3;have Qb:=aa aA;have aS:=aa ah;have hc:=aO.o h3;have ba:=hc.1;have bd:=hc.2;rw[h3]at s2;clear h3 aA ah hc;go_upto_region 3 with(fail);clear s2;go_wp2;go_loopw[5] (fun i wr=>∃k:Nat,k<=Wq s.Ga/\i=Bm Sj k/\Below W1.1.size W1 wr) (fun i _=>Wq s.Ga-(intOf i).toNat)
  exact⟨0,cg _,rfl,bj _ _⟩;obtain⟨k,hk,rfl,hB⟩:=hrel;have TJ:=aa hB;have am:=fl;have G1:=ua;have ao:=Q5;replace fl:=Zl hB fl;replace ua:=Zl hB ua;replace Q5:=aa (Q5.o.mv (Mv.of hB));have fy:=YS HB hB;clear hB am G1 ao;have s3:=mi fl.o 3 _ lX;by_cases hlt:k<Wq s.Ga
  ·obtain⟨r,hr⟩:=aj s.Ga k hlt;have ab:=ct hr;obtain⟨b,off,us,rfl,_,cX,_,eE,a5⟩:=o0.o.elem hr;obtain rfl:us=_:=eE;have cT:=fy.o.block b cX;have hbl:=cC cX fy.o.size;obtain⟨q0,q1,q2⟩:=Mn cT a5;clear a5 hr cT;have hq:(dO g r.on != s.length)=VN:=by rw[Qb.o r ab];simp
   go_upto_region 6 with(fail);clear s3;obtain⟨g0,g1,g2,g3,g4,g5,g6,g7,g8⟩:=Hr ua.o;have HGQ:=aa fun q:fo=>(ck.moves aN.moves).mv (Mv.of (dQ wr q)) Q5.o.F9;have sL:=mi fl.o;have GF:=aq fl.o;have e1:=aG GF (sL 1 _ lX);have e3:=aG GF (sL 3 _ lX);replace q1:=aG hbl q1;clear sL GF ab q0 q2
   (refine aU Yp Yp ?_;(repeat(go_big_quiet_step ((go_at_call 154;exact iH (Ar g a (HGQ.o _) hz)))));(with_reducible refine fR ?_);intro aC ia;have a7:=dY ia;clear ia)
   have YF:=YS TJ a7;clear a7 g0 g1 g2 g3 g4 g5 g6 g7 g8 e1 e3 q1 hq TJ ua fl Q5 fy hbl;go_wp2;go_roundw;exact⟨k+1,WQ,Zf,YF.o⟩;exact Ti
  clear hk TJ;have m0:=Ia (a:=s.length) (b:=g.Gd) WQ WQ ak hx2;have w1:IntKind.i64.wrap (s.length*g.Gd)=s.length*g.Gd:=dy _ WQ;have w2:IntKind.i64.wrap (s.length*g.Gd+s.chunk)=s.length*g.Gd+s.chunk:=dy _ WQ;have w3:IntKind.i64.wrap (s.length*g.Gd+s.chunk-1)=s.length*g.Gd+s.chunk-1:=dy _ WQ;have r0:0<=BZ g s:=lz WQ WQ;have r1:BZ g s<=s.length*g.Gd+s.chunk-1:=mS _ WQ;have w4:(s.length*g.Gd+s.chunk-1).tdiv s.chunk=BZ g s:=CC WQ;have w5:IntKind.i64.wrap (BZ g s)=BZ g s:=dy _ WQ;have w6:(s.chunk==0)=VN:=beq_eq_false_iff_ne.2 WQ;have s1:=mi fl.o 1 _ lX;have s4:=mi fl.o 4 _ lX;have g3:=mi ua.o 3 _ lX;go_upto_region 9 with(fail);clear s1 s3 s4 g3 w1 w2 w3 w4 w5 w6;have r2:BZ g s<=10240001024:=by omega
  clear m0 r1;generalize hR:BZ g s=R at *;cases Fi:s.log.toList.isEmpty with
  |true =>
   have e6:=aG (aq fl.o) (mi fl.o 6 _ lX);(refine aU Yp Yp ?_;(repeat(go_big_quiet_step ((fail))));(with_reducible refine fR ?_);intro aD ia;have a8:=dY ia;clear ia)
   have TF:=YS fy a8;clear a8 e6;go_wp2;go_ret;exact⟨rfl,TF.o⟩
  |false =>
   have ah:=aS.o Fi;have hll:=Qc.o s.log;have m1:=Ia (a:=dO g s.log) (b:=g.Gd) WQ WQ ak hx2;have w1:IntKind.i64.wrap (dO g s.log*g.Gd)=dO g s.log*g.Gd:=dy _ WQ;have w2:IntKind.i64.wrap (R+63)=R+63:=dy _ WQ;have d0:0<=(R+63)/64:=lz WQ WQ;have d1:(R+63)/64<=R+63:=mS _ WQ;have w3:(R+63).tdiv 64=(R+63)/64:=CC WQ;have w4:IntKind.i64.wrap ((R+63)/64)=(R+63)/64:=dy _ WQ;have w5:IntKind.i64.wrap (1+(R+63)/64)=1+(R+63)/64:=dy _ WQ;have w6:V7 (1+(R+63)/64<=dO g s.log*g.Gd)=VR:=eA ah;obtain⟨g0,g1,g2,g3,g4,g5,g6,g7,g8⟩:=Hr ua.o;have HGQ:=aa fun q:fo=>(ck.moves aN.moves).mv (Mv.of (dQ wr q)) Q5.o.F9;have sL:=mi fl.o;have GF:=aq fl.o;have e6:=aG GF (sL 6 _ lX);clear sL GF ah hll m1 d0 d1
   (refine aU Yp Yp ?_;(repeat(go_big_quiet_step ((go_at_call 154;exact iH (Ar g a (HGQ.o _) hz)))));(with_reducible refine fR ?_);intro aD ia;have a8:=dY ia;clear ia)
   have TF:=YS fy a8;clear a8 g0 g1 g2 g3 g4 g5 g6 g7 g8 e6 w1 w2 w3 w4 w5 w6;go_wp2;go_ret;exact⟨rfl,TF.o⟩
 by_cases h4:s.kind=4
 ·obtain⟨aE,hpb⟩:=aJ.o h4;have Qb:=aa aE;have be:=aP.o h4;rw[h4]at s2;clear h4 h3 aE;obtain⟨r0,hr0⟩:=aj s.Ga 0 WQ;have aF:aOn s 0=r0.on:=by unfold aOn;rw[hr0];rfl
  rw[aF]at Qb hpb;obtain⟨b0,aT,aV,a9,_,bf,_,aW,ai⟩:=o0.o.elem hr0;obtain rfl:aV=_:=aW;have aX:=aa (ai 1 _ lX);replace a9:=aa a9;clear ai hr0 aF;go_upto_region 11 with(fail);clear s2;go_wp2;go_loopw[7] (fun i wr=>∃k:Nat,k<=Wq s.Ga/\i=Bm Sj k/\Below W1.1.size W1 wr) (fun i _=>Wq s.Ga-(intOf i).toNat)
  exact⟨0,cg _,rfl,bj _ _⟩;obtain⟨k,hk,rfl,hB⟩:=hrel;have TJ:=aa hB;have am:=fl;have G1:=ua;have ao:=Q5;replace fl:=Zl hB fl;replace ua:=Zl hB ua;replace Q5:=aa (Q5.o.mv (Mv.of hB));have fy:=YS HB hB;clear hB am G1 ao;have s3:=mi fl.o 3 _ lX;by_cases hlt:k<Wq s.Ga
  ·obtain⟨r,hr⟩:=aj s.Ga k hlt;have ab:=ct hr;obtain⟨b,off,us,rfl,_,cX,_,eE,a5⟩:=o0.o.elem hr;obtain rfl:us=_:=eE;have cT:=fy.o.block b cX;have hbl:=cC cX fy.o.size;obtain⟨q0,q1,q2⟩:=Mn cT a5;clear a5 hr cT;have hq:(dO g r.on != dO g r0.on)=VN:=by rw[Qb.o r ab];simp
   have heq:dO g r.on=dO g r0.on:=Qb.o r ab;have TD:=a9.o;simp only[Option.some.injEq,Addr.mk.injEq,and_true]at TD;obtain⟨rfl,rfl⟩:=TD;have ag:=(cd (a:=⟨b,off+0*3+1,VX⟩) (fy.o.block b cX)).trans aX.o;rw[Nat.zero_mul,fg]at ag;have bg:0<Wq s.Ga:=by omega
   go_upto_region 14 with(fail);clear s3;obtain⟨g0,g1,g2,g3,g4,g5,g6,g7,g8⟩:=Hr ua.o;have HGQ:=aa fun q:fo=>(ck.moves aN.moves).mv (Mv.of (dQ wr q)) Q5.o.F9;have sL:=mi fl.o;have GF:=aq fl.o;have e3:=aG GF (sL 3 _ lX);replace q1:=aG hbl q1;clear sL GF ab q0 q2
   (refine aU Yp Yp ?_;(repeat(go_big_quiet_step ((go_at_call 154;exact iH (Ar g a (HGQ.o _) hz)))));(with_reducible refine fR ?_);intro aC ia;have a7:=dY ia;clear ia)
   have aH:=aq ua.o;have aI:=aq fl.o;replace ua:=aa ((a7.block _ aH).trans ua.o);replace fl:=aa ((a7.block _ aI).trans fl.o);replace Q5:=aa (Q5.o.mv (Mv.of a7));replace ag:=(Sc a7 hbl).trans ag;replace hbl:=cC hbl a7.size;have YF:=YS TJ a7;clear a7 g0 g1 g2 g3 g4 g5 g6 g7 g8 e3 q1 TJ fy HGQ aH aI;go_upto_region 15 with(fail);rw[heq]at hq ⊢;obtain⟨g0,g1,g2,g3,g4,g5,g6,g7,g8⟩:=Hr ua.o;have HGQ:=aa fun q:fo=>(ck.moves aN.moves).mv (Mv.of (dQ aC q)) Q5.o.F9;have sL:=mi fl.o;have GF:=aq fl.o;have e1:=aG GF (sL 1 _ lX);have e3:=aG GF (sL 3 _ lX);replace ag:=aG hbl ag;have hll:=Qc.o r0.on;have m1:=Ia (a:=dO g r0.on) (b:=g.Gd) WQ WQ ak hx2;have w1:IntKind.i64.wrap (dO g r0.on*g.Gd)=dO g r0.on*g.Gd:=dy _ WQ;have w2:IntKind.i64.wrap ((Wq s.Ga:Int)-1)=(Wq s.Ga:Int)-1:=dy _ WQ;have w3:((Wq s.Ga:Int)-1==0)=VN:=beq_eq_false_iff_ne.2 WQ;have d0:0<=s.length/((Wq s.Ga:Int)-1):=lz WQ WQ;have d1:s.length/((Wq s.Ga:Int)-1)<=s.length:=mS _ WQ;have w4:s.length.tdiv ((Wq s.Ga:Int)-1)=s.length/((Wq s.Ga:Int)-1):=CC WQ;generalize s.length/((Wq s.Ga:Int)-1)=D at *;have w5:IntKind.i64.wrap D=D:=dy _ WQ;have m2:=Ia (a:=D) (b:=g.Gd) d0 WQ ak hx2;have w6:IntKind.i64.wrap (D*g.Gd)=D*g.Gd:=dy _ WQ;have w7:IntKind.i64.wrap (D*g.Gd+16)=D*g.Gd+16:=dy _ WQ;have w8:V7 (dO g r0.on*g.Gd<D*g.Gd+16)=VN:=cN WQ;clear sL GF hll m1 m2 d0 d1
   (refine aU Yp Yp ?_;(repeat(go_big_quiet_step ((go_at_call 154;exact iH (Ar g a (HGQ.o _) hz)))));(with_reducible refine fR ?_);intro aD ia;have a8:=dY ia;clear ia)
   have aY:=YS YF a8;clear a8 g0 g1 g2 g3 g4 g5 g6 g7 g8 e1 e3 ag w1 w2 w3 w4 w5 w6 w7 w8 hq YF ua fl Q5 hbl HGQ;go_wp2;go_roundw;exact⟨k+1,WQ,Zf,aY.o⟩;exact Ti
  clear hk TJ;exact TcN
 by_cases h5:s.kind=5
 ·have hq:(dO g (aOn s 1)==s.length)=VR:=by rw[YB.o h5];simp
  have hl:=aL.o h5;rw[h5]at s2;clear h5 h3 h4;obtain⟨r,hr⟩:=aj s.Ga 1 WQ;have ho:aOn s 1=r.on:=by unfold aOn;rw[hr];rfl
  rw[ho]at hq;obtain⟨b,off,us,rfl,_,cX,_,eE,a5⟩:=o0.o.elem hr;obtain rfl:us=_:=eE;have q1:=aG (cC cX HB.o.size) ((cd (a:=⟨b,off+1*3+1,VX⟩) (HB.o.block b cX)).trans (a5 1 _ lX));rw[Nat.one_mul]at q1;have aZ:1<Wq s.Ga:=by omega
  clear a5 hr ho;go_upto_region 18 with(fail);exact Tbb
 by_cases h7:s.kind=7
 ·have hq:(dO g (aOn s 0)==s.length)=VR:=by rw[aK.o h7];simp
  have hl:=aM.o h7;rw[h7]at s2;clear h7 h3 h4 h5;obtain⟨r,hr⟩:=aj s.Ga 0 WQ;have ho:aOn s 0=r.on:=by unfold aOn;rw[hr];rfl
  rw[ho]at hq;obtain⟨b,off,us,rfl,_,cX,_,eE,a5⟩:=o0.o.elem hr;obtain rfl:us=_:=eE;have q1:=aG (cC cX HB.o.size) ((cd (a:=⟨b,off+0*3+1,VX⟩) (HB.o.block b cX)).trans (a5 1 _ lX));rw[Nat.zero_mul,fg]at q1;have aZ:0<Wq s.Ga:=by omega
  clear a5 hr ho;go_upto_region 20 with(fail);exact Tbb
 have e3:(s.kind==3)=VN:=beq_eq_false_iff_ne.2 h3;have e4:(s.kind==4)=VN:=beq_eq_false_iff_ne.2 h4;have e5:(s.kind==5)=VN:=beq_eq_false_iff_ne.2 h5;have e7:(s.kind==7)=VN:=beq_eq_false_iff_ne.2 h7;clear h3 h4 h5 h7;exact TcM
def Hq(l:PI)(j:Nat)(u:zY)(h:(l.map (Bm Sj))[j]?=Vv u):∃n,l[j]?=Vv n/\u=Bm Sj n:=by
 rw[rI]at h;cases hl:l[j]? with
 |none=>rw[hl]at h;cases h
 |some n=>rw[hl]at h;cases h;exact⟨n,rfl,rfl⟩
def Ih(w:H7)(B:Nat)(v vx:zY)(l m:PI)(ty:TypeId)(a5:eG w B v l)(hx:Hs w vx m)(On:l.length+m.length<=100000000)(hB:B<=w.1.size) :
  ∃v' w',(Builtin.append_ #[22,22] ty #[v,vx]).run prog w=.ok v' w'/\eG w' B v' (l++m)/\w.grownBy w' v.ownBlock:=by
 obtain⟨i0,hi,du,R0,RC⟩:=gg tZ;obtain⟨p,cap,rfl,a9,ij,hp⟩:=hx;cases p with
 |none =>
  have hm:m=[]:=by
   cases m with
   |nil=>rfl
   |cons a m=>obtain⟨b,off,e,_⟩:=hp XN;cases e
  subst hm;refine⟨v,w,?_,by simpa using a5,⟨rfl,rfl,rfl,bk _,fun _ _ _=>rfl⟩⟩;rcases a5.2 with⟨rfl,hn⟩|⟨g,a8,aa,rfl,_,_,vr,_⟩
  ·simp[Builtin.append_,tU underlying22,sizeOf,typeInfo,hi,Builtin.lenOf,Builtin.firstCells]
  simp[Builtin.append_,tU underlying22,sizeOf,typeInfo,hi,Builtin.lenOf,Builtin.firstCells,vr,storeCells]
 |some a =>
  by_cases h0:0<m.length
  ·obtain⟨b,off,e,hb,hc⟩:=hp h0
   cases e
   obtain⟨v',w',hr,a7,hg,_⟩:=run_append_own (P:=prog) w B 22 ty 3 i0 _ 1 8 underlying22 hi du R0 RC lX YR v l.length (l.map (Bm Sj)) a5 ⟨b,off,VX⟩ m.length cap (m.map (Bm Sj)) XN (fun j u hu=>by
    obtain⟨n,hn,rfl⟩:=Hq m j u hu;rw[iz];exact hc j n hn) (fun u hu=>by rw[As]at hu;obtain⟨n,_,rfl⟩:=hu;rfl) Tdh WQ hB
   refine⟨v',w',hr,?_,hg⟩;unfold eG;rw[gl,cD];exact a7
  have hm:m=[]:=fX WQ;subst hm;obtain⟨v',w',hr,a7,hg,_⟩:=run_append_own (P:=prog) w B 22 ty 3 i0 _ 1 8 underlying22 hi du R0 RC lX YR v l.length (l.map (Bm Sj)) a5 a 0 cap [] lX (fun j u hu=>by simp at hu) (fun u hu=>by cases hu) Tdh WQ hB;refine⟨v',w',hr,?_,hg⟩;unfold eG;simpa using a7
def pz{K:Act->H7->Prop}{E:Prop}
  (hg:o.guard=VX) (s x:Operand) (a7:o.op=Op.call { callee:=Callee.builtin Builtin.append,args:=#[s,x],argTypes:=#[22,22] })
  (B:Nat) (v vx:zY) (l m:PI) (hs:a.eval s=v) (hx:a.eval x=vx) (a5:eG w B v l) (kf:Hs w vx m) (On:l.length+m.length<=100000000) (hB:B<=w.1.size)
  (hK:∀v' w',eG w' B v' (l++m)->w.grownBy w' v.ownBlock->K (a.put o.dst v') w'):if Cd o (yielded ops a.tmps)=VR then Oper.wp prog o a w K Q else E:=by
 have hw:Cd o (yielded ops a.tmps)=VR:=by simp[Cd,hg]
 rw[aw hw];obtain⟨v',w',hr,h1,h2⟩:=Ih w B v vx l m o.type a5 kf On hB;unfold Oper.wp;simp[execOp,a7,resolve,invoke,builtin,hs,hx,hr,Result.andThen];exact hK v' w' h1 h2
def Ip{cap:Nat}{l:PI}(k:Nat)(hk:k<=l.length)(hb:b<w.1.size)(hc:ig w b off l)(a7:l.length<=cap)(ij:cap<=9223372036854775807):Hs w (FG (Vv (b,off)) k cap) (l.take k):=by
 have hl:(l.take k).length=k:=by simp;omega
 refine⟨Vv ⟨b,off,VX⟩,cap,by rw[hl],WQ,ij,fun _=>⟨b,off,rfl,hb,fun i n hn=>?_⟩⟩;have a5:i<k:=by have:=(AT.1 hn).1;omega
 rw[ri a5]at hn;exact hc i n hn
def Ij{cap:Nat}{l:PI}(k:Nat)(hk:k<=l.length)(hb:b<w.1.size)(hc:ig w b off l)(a5:l.length<=cap)(ij:cap<=9223372036854775807):Hs w (FG (Vv (b,off+k)) (l.length-k) (cap-k)) (l.drop k):=by
 have hl:(l.drop k).length=l.length-k:=by simp
 refine⟨Vv ⟨b,off+k,VX⟩,cap-k,by rw[hl],WQ,WQ,fun _=>⟨b,off+k,rfl,hb,fun i n hn=>?_⟩⟩;rw[pk]at hn;rw[Nat.add_assoc];exact hc (k+i) n hn
def Gv(w:H7)(p:IH)(cap:Nat)(hc:cap<=9223372036854775807):Hs w (FG p 0 cap) []:=⟨p,cap,rfl,XN,hc,fun h=>absurd h XN⟩
def rE(h:w.cell? b=Vv (Bm Sj n)):Hs w (FG (Vv b) 1 1) [n]:=by
 refine⟨Vv ⟨b,0,VX⟩,1,rfl,XN,WQ,fun _=>⟨b,0,rfl,cP w _ h,fun i m hm=>?_⟩⟩
 match i,hm with
 |0,hm=>simp at hm;subst hm;exact h
 |i+1,hm=>simp at hm
def GL{l:PI}(hl:l.Pairwise (·<·))(h1:∀x∈l.take k,x<n)(h2:∀x∈l.drop k,n<x):(l.take k++[n]++l.drop k).Pairwise (·<·)/\∀m,m∈l.take k++[n]++l.drop k↔m∈l\/m=n:=by
 refine⟨?_,fun m=>?_⟩
 ·rw[tP,tP];refine⟨⟨hl.sublist (List.take_sublist k l),XN,fun x hx y hy=>by simp at hy;subst hy;exact h1 x hx⟩,hl.sublist (List.drop_sublist k l),fun x hx y hy=>?_⟩;rcases AS.1 hx with hx|hx
  ·have:=h1 x hx;have:=h2 y hy;omega
  simp at hx;subst hx;exact h2 y hy
 have:=rk k l;rw[oT,oT];constructor
 ·rintro((h|h)|h)
  ·exact .inl (tR h)
  ·simp at h;exact .inr h
  exact .inl (List.mem_of_mem_drop h)
 rintro(h|h)
 ·rw[<- this]at h;rcases AS.1 h with h|h
  ·exact .inl (.inl h)
  exact .inr h
 exact .inl (.inr (by simp[h]))
def IB(w:H7)(l:PI)(n:Int)(e:Ending)(w':H7):Prop :=
 ∃v l',e=S6 v/\Hs w' v l'/\l'.Pairwise (·<·)/\(∀m,m∈l'↔m∈l\/m=n)/\l'.length<=l.length+1/\Below w.1.size w w'
def Tdl(h:gt:=by simp;try omega):=h
def Tef(h:gt:=by first|(simp;done)|(simpa using HI.o.2)):=h
def Teg(h:gt:=by first|(simp;done)|(simpa using HI.o.1)):=h
def TbK(h:gt:=by
 go_wp2;go_ret;exact⟨_,_,rfl,ho43.rd,Teg,Tef,Tdl,hb43.o⟩):=h
def Td3(h:gt:=by exact rE (hg36.cell (aD (by simp) lX) (by simp[Value.ownBlock]))):=h
def Tea(h:gt:=by exact hb36.o):=h
def Ted(h:gt:=by exact ho36):=h
def Tdk(h:gt:=by have:=hb36.o.size;simp;omega):=h
def Td1(h:gt:=by refine hb36.o.trans (kt (B:=w36.1.size) ?_ hb36.o.size);(repeat' (first|exact bj _ _|exact bk _|(refine dT ?_ ?_ _)|(refine aT ?_ _)|(refine mC ?_)|(simp;done)|(simp;omega)))):=h
def Td2(h:gt:=by refine ho36.below ?_;(repeat' (first|exact bj _ _|exact bk _|(refine dT ?_ ?_ _)|(refine aT ?_ _)|(refine mC ?_)|(simp;done)|(simp;omega)))):=h
def Td4(h:gt:=by exact rE (aD (by simp) lX)):=h
def Tdg(h:gt:=by simp[Act.eval]):=h
def Tdu(h:gt:=by(repeat' (first|exact bj _ _|exact bk _|(refine dT ?_ ?_ _)|(refine aT ?_ _)|(refine mC ?_)|(simp;done)|(simp;omega)))):=h
def Td5(h:gt:=by simp[Act.eval,Act.put]):=h
theorem GD(l:PI)(n:Int){v:zY}{w:H7}(hr:Hs w v l)(hs:l.Pairwise (·<·))(On:l.length<=10000000):Calls prog 158 #[v,Bm Sj n] w (IB w l n):=by
 have HR:=aa hr;replace hs:=aa hs;obtain⟨p,cap,rfl,ak,ij,hp⟩:=hr;go_enter func158,ntmps158;go_wp2
 go_loopw[5] (fun i wr=>∃k:Nat,k<=l.length/\i=Bm Sj k/\(∀x∈l.take k,x<n)/\wr=w) (fun i _=>l.length-(intOf i).toNat)
 exact⟨0,cg _,rfl,XN,rfl⟩;obtain⟨k,hk,rfl,hall,rfl⟩:=hrel;replace hall:=aa hall;by_cases hlt:k<l.length
 ·obtain⟨b,off,rfl,gO,hc⟩:=hp WQ;obtain⟨x,hx⟩:=aj l k hlt;have am:=hc k x hx;have HX:=aa hx;replace hc:=aa hc;clear hp hx;by_cases UM:x<n
  ·go_wp2;go_roundw;exact⟨k+1,WQ,Zf,fun y hy=>by
    rw[take_snoc' l k x HX.o]at hy;rcases AS.1 hy with hy|hy
    ·exact hall.o y hy
    simp at hy;subst hy;exact UM,trivial⟩
   simp[intOf];omega
  by_cases Yh:x=n
  ·subst Yh;have Qu:(x==x)=VR:=by simp
   go_wp2;go_ret;exact⟨_,l,rfl,HR.o,hs.o,fun m=>⟨.inl,fun h=>h.elim id fun h=>by rw[h];exact ct HX.o⟩,WQ,bj _ _⟩
  have Qu:(x==n)=VN:=by simp[Yh]
  have Vo:n<x:=by omega
  have h2:∀y∈l.drop k,n<y:=by
   intro y hy;rw[GR l k x HX.o]at hy;rcases DQ.1 hy with rfl|hy
   ·exact Vo
   have hp:=hs.o.sublist (List.drop_sublist k l);rw[GR l k x HX.o]at hp;have:=(IN.1 hp).1 y hy;omega
  have HI:=aa (GL hs.o hall.o h2);clear Yh h2;have af:=aa (fun(W:H7) (hW:Below wr.1.size wr W)=>(Ip k hk gO hc.o ak ij).below hW);have B2:=aa (fun(W:H7) (hW:Below wr.1.size wr W)=>(Ij k hk gO hc.o ak ij).below hW);have UK:k<=cap:=by omega
  have aq:¬cap=k:=by omega
  go_wp2;clear Qu Vo am;go_region_law (first
   |(refine pz (o:=⟨Vv 36,_,_,_,_,_⟩) lX (.const (FG VX 0 0)) (.tmp 35) lX wr.1.size (FG VX 0 0) (FG (Vv (b,off)) k cap) [] (l.take k) Tdg Td5 (eG.nil _ _) (af.o _ Tdu) ZY XN ?_;intro ab w36 ho36 hg36;have hb36:=aa (fN (B:=wr.1.size) (a:=wr) Tdu hg36 XN TdQ))
   |(refine pz (o:=⟨Vv 39,_,_,_,_,_⟩) lX (.tmp 36) (.tmp 38) lX wr.1.size ab (FG (Vv w36.1.size) 1 1) ([]++l.take k) [n] Tdg Tdg Td2 Td4 ZY Tdk ?_;intro ae ag a7 a8;have a5:=aa (fN (B:=wr.1.size) (a:=wr) Td1 a8 Tdk (fun j hj=>(ho36.lt j hj).1)))
   |(refine pz (o:=⟨Vv 39,_,_,_,_,_⟩) lX (.tmp 36) (.tmp 38) lX wr.1.size ab (FG (Vv wr.1.size) 1 1) ([]++l.take k) [n] Tdg Tdg Ted Td3 ZY Tdk ?_;intro ae ag a7 a8;have a5:=aa (fN (B:=wr.1.size) (a:=wr) Tea a8 Tdk (fun j hj=>(ho36.lt j hj).1)))
   |(refine pz (o:=⟨Vv 43,_,_,_,_,_⟩) lX (.tmp 39) (.tmp 42) lX wr.1.size ae (FG (Vv (b,off+k)) (l.length-k) (cap-k)) ([]++l.take k++[n]) (l.drop k) Tdg Tdg a7 (B2.o _ a5.o) ZY a5.o.size ?_;intro ah ai ho43 a9;have hb43:=aa (fN (B:=wr.1.size) (a:=wr) a5.o a9 a5.o.size (fun j hj=>(a7.lt j hj).1))))
  all_goals
   go_wp2;go_ret;exact⟨_,_,rfl,ho43.rd,Teg,Tef,ZY,hb43.o⟩
 by_cases hl0:0<l.length
 ·have ao:k=l.length:=by omega
  subst ao;have hi:=GL hs.o hall.o (n:=n) XN;simp only[cI,List.drop_length,eM]at hi;have HI:=aa hi;clear hi;obtain⟨b,off,rfl,gO,hc⟩:=hp hl0;clear hp;by_cases hce:cap=l.length
  ·subst hce;have af:=aa (fun(W:H7) (hW:Below wr.1.size wr W)=>HR.o.below hW);have B2:=aa (fun(W:H7) (_:Below wr.1.size wr W)=>Gv W (Vv ⟨b,off,VX⟩) 0 WQ);clear hc;go_wp2;go_region_law (first
    |(refine pz (o:=⟨Vv 36,_,_,_,_,_⟩) lX (.const (FG VX 0 0)) (.tmp 35) lX wr.1.size (FG VX 0 0) (FG (Vv (b,off)) l.length l.length) [] (l) Tdg Td5 (eG.nil _ _) (af.o _ Tdu) Tdl XN ?_;intro ab w36 ho36 hg36;have hb36:=aa (fN (B:=wr.1.size) (a:=wr) Tdu hg36 XN TdQ))
    |(refine pz (o:=⟨Vv 39,_,_,_,_,_⟩) lX (.tmp 36) (.tmp 38) lX wr.1.size ab (FG (Vv w36.1.size) 1 1) ([]++l) [n] Tdg Tdg Td2 Td4 Tdl Tdk ?_;intro ae ag a7 a8;have a5:=aa (fN (B:=wr.1.size) (a:=wr) Td1 a8 Tdk (fun j hj=>(ho36.lt j hj).1)))
    |(refine pz (o:=⟨Vv 39,_,_,_,_,_⟩) lX (.tmp 36) (.tmp 38) lX wr.1.size ab (FG (Vv wr.1.size) 1 1) ([]++l) [n] Tdg Tdg Ted Td3 Tdl Tdk ?_;intro ae ag a7 a8;have a5:=aa (fN (B:=wr.1.size) (a:=wr) Tea a8 Tdk (fun j hj=>(ho36.lt j hj).1)))
    |(refine pz (o:=⟨Vv 43,_,_,_,_,_⟩) lX (.tmp 39) (.tmp 42) lX wr.1.size ae (FG (Vv (b,off)) 0 0) ([]++l++[n]) ([]) Tdg Tdg a7 (B2.o _ a5.o) Tdl a5.o.size ?_;intro ah ai ho43 a9;have hb43:=aa (fN (B:=wr.1.size) (a:=wr) a5.o a9 a5.o.size (fun j hj=>(a7.lt j hj).1))))
   all_goals
    exact TbK
  have af:=aa (fun(W:H7) (hW:Below wr.1.size wr W)=>HR.o.below hW);have B2:=aa (fun(W:H7) (_:Below wr.1.size wr W)=>Gv W (Vv ⟨b,off+l.length,VX⟩) (cap-l.length) WQ);clear hc;go_wp2;go_region_law (first
   |(refine pz (o:=⟨Vv 36,_,_,_,_,_⟩) lX (.const (FG VX 0 0)) (.tmp 35) lX wr.1.size (FG VX 0 0) (FG (Vv (b,off)) l.length cap) [] (l) Tdg Td5 (eG.nil _ _) (af.o _ Tdu) Tdl XN ?_;intro ab w36 ho36 hg36;have hb36:=aa (fN (B:=wr.1.size) (a:=wr) Tdu hg36 XN TdQ))
   |(refine pz (o:=⟨Vv 39,_,_,_,_,_⟩) lX (.tmp 36) (.tmp 38) lX wr.1.size ab (FG (Vv w36.1.size) 1 1) ([]++l) [n] Tdg Tdg Td2 Td4 Tdl Tdk ?_;intro ae ag a7 a8;have a5:=aa (fN (B:=wr.1.size) (a:=wr) Td1 a8 Tdk (fun j hj=>(ho36.lt j hj).1)))
   |(refine pz (o:=⟨Vv 39,_,_,_,_,_⟩) lX (.tmp 36) (.tmp 38) lX wr.1.size ab (FG (Vv wr.1.size) 1 1) ([]++l) [n] Tdg Tdg Ted Td3 Tdl Tdk ?_;intro ae ag a7 a8;have a5:=aa (fN (B:=wr.1.size) (a:=wr) Tea a8 Tdk (fun j hj=>(ho36.lt j hj).1)))
   |(refine pz (o:=⟨Vv 43,_,_,_,_,_⟩) lX (.tmp 39) (.tmp 42) lX wr.1.size ae (FG (Vv (b,off+l.length)) 0 (cap-l.length)) ([]++l++[n]) ([]) Tdg Tdg a7 (B2.o _ a5.o) Tdl a5.o.size ?_;intro ah ai ho43 a9;have hb43:=aa (fN (B:=wr.1.size) (a:=wr) a5.o a9 a5.o.size (fun j hj=>(a7.lt j hj).1))))
  all_goals
   exact TbK
 have hl:l=[]:=fX WQ;subst hl;have hk0:k=0:=by simpa using hk
 subst hk0;have HI:=aa (show([n]:PI).Pairwise (·<·)/\∀m,m∈[n]↔m∈([]:PI)\/m=n from⟨XN,XN⟩);cases p with
 |none =>
  have af:=aa (fun(W:H7) (_:Below wr.1.size wr W)=>Gv W VX cap ij);have B2:=af;go_wp2;go_region_law (first
   |(refine pz (o:=⟨Vv 36,_,_,_,_,_⟩) lX (.const (FG VX 0 0)) (.tmp 35) lX wr.1.size (FG VX 0 0) (FG VX 0 cap) [] ([]) Tdg Td5 (eG.nil _ _) (af.o _ Tdu) Tdl XN ?_;intro ab w36 ho36 hg36;have hb36:=aa (fN (B:=wr.1.size) (a:=wr) Tdu hg36 XN TdQ))
   |(refine pz (o:=⟨Vv 39,_,_,_,_,_⟩) lX (.tmp 36) (.tmp 38) lX wr.1.size ab (FG (Vv w36.1.size) 1 1) ([]++[]) [n] Tdg Tdg Td2 Td4 Tdl Tdk ?_;intro ae ag a7 a8;have a5:=aa (fN (B:=wr.1.size) (a:=wr) Td1 a8 Tdk (fun j hj=>(ho36.lt j hj).1)))
   |(refine pz (o:=⟨Vv 39,_,_,_,_,_⟩) lX (.tmp 36) (.tmp 38) lX wr.1.size ab (FG (Vv wr.1.size) 1 1) ([]++[]) [n] Tdg Tdg Ted Td3 Tdl Tdk ?_;intro ae ag a7 a8;have a5:=aa (fN (B:=wr.1.size) (a:=wr) Tea a8 Tdk (fun j hj=>(ho36.lt j hj).1)))
   |(refine pz (o:=⟨Vv 43,_,_,_,_,_⟩) lX (.tmp 39) (.tmp 42) lX wr.1.size ae (FG VX 0 cap) ([]++[]++[n]) ([]) Tdg Tdg a7 (B2.o _ a5.o) Tdl a5.o.size ?_;intro ah ai ho43 a9;have hb43:=aa (fN (B:=wr.1.size) (a:=wr) a5.o a9 a5.o.size (fun j hj=>(a7.lt j hj).1))))
  all_goals
   go_wp2;go_ret;exact⟨_,_,rfl,ho43.rd,Teg,Tef,Tdl,hb43.o⟩
 |some a =>
  have af:=aa (fun(W:H7) (_:Below wr.1.size wr W)=>Gv W (Vv a) cap ij);have B2:=af;go_wp2;go_region_law (first
   |(refine pz (o:=⟨Vv 36,_,_,_,_,_⟩) lX (.const (FG VX 0 0)) (.tmp 35) lX wr.1.size (FG VX 0 0) (FG (Vv a) 0 cap) [] ([]) Tdg Td5 (eG.nil _ _) (af.o _ Tdu) Tdl XN ?_;intro ab w36 ho36 hg36;have hb36:=aa (fN (B:=wr.1.size) (a:=wr) Tdu hg36 XN TdQ))
   |(refine pz (o:=⟨Vv 39,_,_,_,_,_⟩) lX (.tmp 36) (.tmp 38) lX wr.1.size ab (FG (Vv w36.1.size) 1 1) ([]++[]) [n] Tdg Tdg Td2 Td4 Tdl Tdk ?_;intro ae ag a7 a8;have a5:=aa (fN (B:=wr.1.size) (a:=wr) Td1 a8 Tdk (fun j hj=>(ho36.lt j hj).1)))
   |(refine pz (o:=⟨Vv 39,_,_,_,_,_⟩) lX (.tmp 36) (.tmp 38) lX wr.1.size ab (FG (Vv wr.1.size) 1 1) ([]++[]) [n] Tdg Tdg Ted Td3 Tdl Tdk ?_;intro ae ag a7 a8;have a5:=aa (fN (B:=wr.1.size) (a:=wr) Tea a8 Tdk (fun j hj=>(ho36.lt j hj).1)))
   |(refine pz (o:=⟨Vv 43,_,_,_,_,_⟩) lX (.tmp 39) (.tmp 42) lX wr.1.size ae (FG (Vv a) 0 cap) ([]++[]++[n]) ([]) Tdg Tdg a7 (B2.o _ a5.o) Tdl a5.o.size ?_;intro ah ai ho43 a9;have hb43:=aa (fN (B:=wr.1.size) (a:=wr) a5.o a9 a5.o.size (fun j hj=>(a7.lt j hj).1))))
  all_goals
   go_wp2;go_ret;exact⟨_,_,rfl,ho43.rd,Teg,Tef,Tdl,hb43.o⟩
def Iy(w:H7)(Z:PI)(e:Ending)(w':H7):Prop:=∃v P,e=S6 v/\Hs w' v P/\Cq P Z/\P.length<=Z.length/\Below w.1.size w w'
def G8(l:RU)(v:zY)(w:H7)(hr:xo w v l)(hval:dI l=VR)(On:l.length<=1000000):Calls prog 115 #[v] w (Iy w (eU l)):=by
 replace hval:=aa hval;obtain⟨p,cap,rfl,am,ij,hp⟩:=hr;go_enter func115,ntmps115;go_wp2
 go_loopw[3,4] (fun vo i wr=>∃(k:Nat) (o:PI),k<=l.length/\i=Bm Sj k/\Hs wr vo o/\o.Pairwise (·<·)/\(∀m,m∈o↔m∈eU (l.take k))/\o.length<=2*k/\Below w.1.size w wr) (fun _ i _=>l.length-(intOf i).toNat)
 exact⟨0,[],cg _,rfl,Hs.nil _,List.Pairwise.nil,by simp[eU],XN,bj _ _⟩;obtain⟨k,o,hk,rfl,a5,KB,Tc,ao,hb⟩:=hrel;by_cases hlt:k<l.length
 ·obtain⟨b,off,rfl,gO,hc⟩:=hp WQ;obtain⟨x,hx⟩:=aj l k hlt;have a7:=(hc.below hb gO) k x hx;have ab:=a7.1;have ae:=a7.2;have cX:b<wr.1.size:=cC gO hb.size;obtain⟨aq,au,hx2⟩:=iF hval.o x (ct hx);have HX:=aa hx;have Pr:=aa Tc;have XE:=aa (fun(W:H7) (hW:Below wr.1.size wr W)=>a5.below hW);replace KB:=aa KB;clear hc hp a7 hx Tc a5;have ag:IntKind.i64.wrap (x.1+x.2)=x.1+x.2:=dy _ WQ;go_wp2;go_region_held3 (fun w'=>w'.cell? (b,off+k*2)=Vv (Bm Sj x.1)/\w'.cell? (b,off+k*2+1)=Vv (Bm Sj x.2)) (go_keep)
   (first
    |(go_at_call_of 158 (Bm Sj x.1);refine(GD o x.1 (XE.o _ ((bj _ _).drew)) KB.o WQ).mono ?_;rintro e w2 ⟨v2,o2,rfl,a8,Td,Te,Ww,hb2⟩;have hd1:w2.cell? (b,off+k*2)=Vv (Bm Sj x.1):=(Sc hb2 (by simpa using cX)).trans (by simpa using ab);have hd2:w2.cell? (b,off+k*2+1)=Vv (Bm Sj x.2):=(Sc hb2 (by simpa using cX)).trans (by simpa using ae))
    |(go_at_call_of 158 (Bm Sj (x.1+x.2));refine(GD o2 (x.1+x.2) a8 Td WQ).mono ?_;rintro e w3 ⟨v3,o3,rfl,a9,Tf,Tg,av,hb3⟩;have ah:w3.cell? (b,off+k*2)=Vv (Bm Sj x.1):=(Sc hb3 (cC cX hb2.size)).trans hd1;have ai:w3.cell? (b,off+k*2+1)=Vv (Bm Sj x.2):=(Sc hb3 (cC cX hb2.size)).trans hd2))
  clear ag hd1 hd2 ah ai ab ae;have hb5:Below w.1.size w w3:=mn (mn hb.drew hb2) hb3;have af:∀m,m∈o3↔m∈eU (l.take (k+1)):=fun m=>by
   rw[Tg,Te,Pr.o,xw l k x HX.o,oT];simp;constructor
   ·rintro((h|h)|h)
    ·exact .inl h
    ·exact .inr (.inl h)
    exact .inr (.inr h)
   rintro(h|h|h)
   ·exact .inl (.inl h)
   ·exact .inl (.inr h)
   exact .inr h
  have HM:=aa af;replace Tf:=aa Tf;clear af Te Tg Td;go_wp2;go_roundw;exact⟨k+1,o3,WQ,Zf,a9,Tf.o,HM.o,WQ,hb5⟩;exact Ti
 have ak:k=l.length:=by omega
 subst ak;rw[cI]at Tc;have HM:=aa Tc;clear Tc;go_wp2;go_ret;exact⟨_,o,rfl,a5,⟨KB,HM.o⟩,by rw[kE];omega,hb⟩
def Hy(l:RU)(n:Int)(h:dI l=VR):Gp l n=kO l n:=by
 unfold Gp kO;rw[mN,nh,nh];unfold dI at h;rw[eL]at h;constructor
 ·rintro⟨p,hp,hh⟩;simp at hh;exact⟨p,hp,ZY⟩
 rintro⟨p,hp,hh⟩;simp at hh;exact⟨p,hp,by simp[h p hp];omega⟩
def Ik(w:H7)(B:Nat)(v vx:zY)(l m:RU)(ty:TypeId)(a5:bM w B v l)(hx:xo w vx m)(On:l.length+m.length<=100000000)(hB:B<=w.1.size) :
  ∃v' w',(Builtin.append_ #[92,92] ty #[v,vx]).run prog w=.ok v' w'/\bM w' B v' (l++m)/\w.grownBy w' v.ownBlock:=by
 obtain⟨i0,hi,du,R0,RC⟩:=gg DT;obtain⟨p,cap,rfl,a9,ij,hp⟩:=hx;cases p with
 |none =>
  have hm:m=[]:=by
   cases m with
   |nil=>rfl
   |cons a m=>obtain⟨b,off,e,_⟩:=hp XN;cases e
  subst hm;refine⟨v,w,?_,by simpa using a5,⟨rfl,rfl,rfl,bk _,fun _ _ _=>rfl⟩⟩;rcases a5.2 with⟨rfl,hn⟩|⟨g,a8,aa,rfl,_,_,vr,_⟩
  ·simp[Builtin.append_,tU underlying92,sizeOf,typeInfo,hi,Builtin.lenOf,Builtin.firstCells]
  simp[Builtin.append_,tU underlying92,sizeOf,typeInfo,hi,Builtin.lenOf,Builtin.firstCells,vr,storeCells]
 |some a =>
  by_cases h0:0<m.length
  ·obtain⟨b,off,e,hb,hc⟩:=hp h0
   cases e
   obtain⟨v',w',hr,a7,hg,_⟩:=run_append_own (P:=prog) w B 92 ty 49 i0 _ 2 16 underlying92 hi du R0 RC lX YR v l.length (bU l) a5 ⟨b,off,VX⟩ m.length cap (bU m) (dx m) (fun j u hu=>by
    rw[iz];have hj:j<m.length*2:=by rw[<- dx];exact(AT.1 hu).1
    obtain⟨p,hp⟩:=De m (j/2) WQ;have h1:=kr m (j/2) p hp;have h2:=hc (j/2) p hp;rcases Nat.mod_two_eq_zero_or_one j with hm|hm
    ·have e:j/2*2=j:=by omega
     rw[e]at h1 h2;rw[h1.1]at hu;rw[h2.1,hu]
    have e:j/2*2+1=j:=by omega
    rw[e]at h1;rw[h1.2]at hu;rw[<- hu,<- h2.2,Nat.add_assoc,e]) (qI _) Tdh WQ hB
   refine⟨v',w',hr,?_,hg⟩;unfold bM;rw[gJ,cD];exact a7
  have hm:m=[]:=fX WQ;subst hm;obtain⟨v',w',hr,a7,hg,_⟩:=run_append_own (P:=prog) w B 92 ty 49 i0 _ 2 16 underlying92 hi du R0 RC lX YR v l.length (bU l) a5 a 0 cap [] lX (fun j u hu=>by simp at hu) (fun u hu=>by cases hu) Tdh WQ hB;refine⟨v',w',hr,?_,hg⟩;unfold bM;simpa using a7
def Gu(a7:o.guard=VX){s x:Operand}
  (ho:o.op=.call { callee:=.builtin .append,args:=#[s,x],argTypes:=#[92,92] })
  (B:Nat) (v:zY) (l m:RU) (hs:a.eval s=v) (hx:a.eval x=vx) (a5:bM w B v l) (kf:xo w vx m) (On:l.length+m.length<=100000000) (hB:B<=w.1.size)
  (h:∀v' w',bM w' B v' (l++m)->Below B w w'->wpList prog ops Q rest (a.put o.dst v') w'):wpList prog ops Q (o :: rest) a w:=by
 obtain⟨v',w',hr,h1,h2⟩:=Ik w B v vx l m o.type a5 kf On hB;refine wpList_plain a7 fun K hK=>?_;unfold Oper.wp;simp only[execOp,ho,resolve,invoke,builtin,Sem.run_bind,Sem.run_pure,ud,tS,iu,List.map_nil,hs,hx,hr];exact hK _ _ (h v' w' h1 ((bj B w).grown h2 hB (fun k hk=>(a5.lt k hk).1)))
def Ig{P:PI}{l:RU}(hP:Cq P (eU l))(hv:dI l=VR):∀t∈P,0<=t/\t<=1073741824:=fun t ht=>by
 have h:=(hP.2 t).1 ht;unfold eU at h;rw[ur]at h;obtain⟨p,hp,h⟩:=h;have:=iF hv p hp;simp at h;rcases h with rfl|rfl<;>omega
def Hu(l:RU):∀r∈l,r.1∈eU l/\r.1+r.2∈eU l:=fun r hr=>by
 unfold eU;rw[ur,ur];exact⟨⟨r,hr,XN⟩,⟨r,hr,XN⟩⟩
def He(a b:RU):dI (a++b)=(dI a&&dI b):=by simp[dI]
def Iz(kind:Int)(x y:Bool):Bool:=(kind==0&&!x&&!y)||(kind==1&&(!x||y))||(kind==2&&(!x||!y))
def Il(kind:Int)(h:kind=0\/kind=1\/kind=2)(x y:Bool):Iz kind x y=!GN kind x y:=by
 rcases h with rfl|rfl|rfl<;>cases x<;>cases y<;>rfl
def Iu(M:Int){l:RU}(h:Row l)(hb:∀p∈l,0<=p.1/\0<=p.2/\p.1+p.2<=M):∀p∈glue l,0<=p.1/\0<=p.2/\p.1+p.2<=M:=by
 rw[GA l h];have:=CL M l hb l.length (bk _);rw[cI]at this;exact this
def IA(w:H7)(S:Int->Prop)(N:Nat)(e:Ending)(w':H7):Prop :=
 ∃v x,e=S6 v/\bM w' w.1.size v x/\iE x S/\dI x=VR/\x.length<=N/\Below w.1.size w w'
def TeY(h:gt:=by refine kt (B:=wc.1.size) ?_ hbo.size;(repeat' (first|exact bj _ _|exact bk _|(refine dT ?_ ?_ _)|(refine aT ?_ _)|(refine mC ?_)|(simp;done)|(simp;omega)))):=h
def Gn(a b:RU)(kind:Int)(zE:kind=0\/kind=1\/kind=2)(v1 v2:zY)(w:H7)(hr1:xo w v1 a)(hr2:xo w v2 b)(au:dI a=VR)(av:dI b=VR)(hl1:a.length<=400000)(aH:b.length<=400000):Calls prog 59 #[v1,v2,Bm Sj kind] w (IA w (fun n=>GN kind (kO a n) (kO b n)=VR) (2*(a.length+b.length))):=by
 have Zx:=aa au;have Vn:=aa av;replace zE:=aa zE;clear au av;have RZ:=hr1;have sB:=hr2;obtain⟨pa,ca,rfl,_⟩:=RZ;obtain⟨pb,cb,rfl,_⟩:=sB;have HR1:=aa hr1;have E3:=aa hr2;go_enter func59,ntmps59
 go_wp2_with(at_builtin;refine Gu lX lX w.1.size _ [] a lX rfl (bM.nil _ _) hr1 ZY (bk _) ?_)
 intro va w1 PT af;have aw:bM w1 w.1.size va a:=by first|exact PT|simpa using PT
 clear hr1 PT;have Th:=hr2.below af;clear hr2;go_wp2_with(at_builtin;refine Gu lX lX w.1.size va a b lX rfl aw Th WQ af.size ?_)
 intro aA w2 Ti hb2;have a5:Below w.1.size w w2:=af.trans hb2;have ra:xo w2 (FG pa a.length ca) a:=HR1.o.below a5;have rb:xo w2 (FG pb b.length cb) b:=E3.o.below a5;have Tj:dI (a++b)=VR:=by rw[He,Zx.o,Vn.o];rfl
 replace Tj:=aa Tj;clear aw Th af hb2;go_wp2_with fail;refine(G8 (a++b) aA w2 Ti.rd Tj.o ZY).mono ?_;rintro e w3 ⟨vp,P,rfl,aB,hP,ah,hb3⟩;replace ra:=ra.below hb3;replace rb:=rb.below hb3;have a8:=mn a5 hb3;have aI:P.length<=2*(a.length+b.length):=by rw[kE]at ah;simp at ah;omega
 have HP:=aa hP;have Kp:=aa (Ig hP Tj.o);clear hP ah Ti hb3 a5;obtain⟨qp,cp,rfl,Ui,Sa,Un⟩:=aB;obtain⟨f,hf⟩:∃f:Int->Bool,f=fun t=>GN kind (Gp a t) (Gp b t):=⟨_,rfl⟩;replace hf:=aa hf;go_wp2
 go_loopw[7,9] (fun vo vn wr=>∃m:Nat,m<=P.length/\vn=Bm Sj m/\bM wr w3.1.size vo (glue (Gf (P.take (m+1)) f))/\Below w3.1.size w3 wr) (fun _ vn _=>P.length-(intOf vn).toNat)
 exact⟨0,cg _,rfl,by rw[Ch];exact bM.nil _ _,bj _ _⟩;obtain⟨m,hm,rfl,a7,hb⟩:=hrel;obtain⟨o,ho⟩:∃o,o=glue (Gf (P.take (m+1)) f):=⟨_,rfl⟩;rw[<- ho]at a7
 have ay:o.length<=2*(a.length+b.length):=by
  rw[ho];have h1:=Io (Gf (P.take (m+1)) f);have h2:=wJ f (P.take (m+1));simp at h2;omega
 have gA:=GH f (P.take (m+1)) (HP.o.1.sublist (List.take_sublist _ _));have a9:∀p∈o,0<=p.1/\0<=p.2/\p.1+p.2<=1073741824:=by
  rw[ho];refine Iu 1073741824 gA (fun r hr=>?_);have h1:=uq f (P.take (m+1)) (HP.o.1.sublist (List.take_sublist _ _)) r hr;have h2:=Kp.o _ (tR h1.1);have h3:=Kp.o _ (tR h1.2.1);omega
 replace ho:=aa ho;clear gA;by_cases hlt:m+1<P.length
 ·obtain⟨bp,PC,rfl,ai,ak⟩:=Un WQ;obtain⟨t,ht⟩:=aj P m WQ;obtain⟨t2,ht2⟩:=aj P (m+1) hlt;have cX:bp<wr.1.size:=cC ai hb.size;have PU:=(ak.below hb ai) m t ht;have az:=(ak.below hb ai) (m+1) t2 ht2;have Wy:=aG cX PU;obtain⟨aJ,aK⟩:=Kp.o t (ct ht);obtain⟨aC,aE⟩:=Kp.o t2 (ct ht2);have aL:t<t2:=by
   exact TbF
  have HT:=aa ht;have HT2:=aa ht2;have RA:=aa (fun(q:fo)=>(ra.below hb).below (dQ wr q));have RB:=aa (fun(q:fo)=>(rb.below hb).below (dQ wr q));have yq:=tu P f m t t2 HT.o HT2.o;have hft:f t=GN kind (Gp a t) (Gp b t):=by rw[hf.o]
  have B6:=aa yq;replace hft:=aa hft;clear ht ht2 ak Un yq;have am:V7 ((m:Int)+1<(P.length:Int))=VR:=by simp;omega
  have aM:m<P.length:=by omega
  go_wp2_with fail;(refine aU Yp Yp ?_;(repeat(go_big_quiet_step ((first|(go_at_call_of 116 (FG pa a.length ca);exact iH (Gz a t WQ (RA.o _)))|(go_at_call_of 116 (FG pb b.length cb);exact iH (Gz b t WQ (RB.o _)))))));(with_reducible refine fR ?_);intro wq ia;have kq:=dY ia;clear ia)
  have C0:=a7.below kq;have hbo:=mn hb kq;have aN:=(Sc kq cX).trans PU;have Zp:=(Sc kq cX).trans az;clear a7 Wy PU az hb RA RB;generalize R1:Gp a t=xa at *;generalize qu:Gp b t=xb at *;clear R1 qu;go_upto_region 7 with fail
  go_cut[69] (fun v wc=>v=Ft (Iz kind xa xb)/\wc=wq)
  case first =>
   rcases zE.o with rfl|rfl|rfl
   all_goals
    cases xa<;>cases xb
    all_goals
     go_wp2;go_meet;exact⟨rfl,by first|rfl|trivial⟩
  case rest =>
   obtain⟨rfl,rfl⟩:=hcut;rw[Il kind zE.o,<- hft.o];cases hft:f t
   ·have yq:glue (Gf (P.take (m+1+1)) f)=o:=by rw[B6.o,hft,ho.o];simp
    have ab:=aa yq;clear yq;go_wp2;go_roundw;exact⟨m+1,WQ,Zf,by rw[ab.o];exact C0,hbo⟩;exact Ti
   have yq:glue (Gf (P.take (m+1+1)) f)=qz o (t,t2-t):=by rw[B6.o,hft,ho.o];simp only[ej];exact Gx _ _
   have ab:=aa yq;clear yq;rcases List.eq_nil_or_concat o with rfl|⟨i,q,rfl⟩
   ·obtain⟨p3,ao,rfl,_,_,_⟩:=C0.rd;go_wp2;go_quiet (fail);go_wp2
    (refine uk 16 Yp lX rfl Yp Yp (fun _ _ _ _ h=>h) Tec ?_;simp only[xi,iv,cQ,cL];(repeat(go_big_quiet_step (fail)));(with_reducible refine fR ?_);intro wq ia;obtain⟨nq,ia⟩:=ia;subst ia)
    go_wp2_with(at_builtin;refine jg lX lX w3.1.size [] (t,t2-t) lX ?c1 wc.1.size 1 lX ?c2 ?c3 XN ?c4 ?_)
    case c1=>refine C0.below ?_;(repeat' (first|exact bj _ _|exact bk _|(refine dT ?_ ?_ _)|(refine aT ?_ _)|(refine mC ?_)|(simp;done)|(simp;omega)))
    try(case c2=>exact aD XN lX)
    try(case c3=>exact aD XN lX)
    case c4=>have:=hbo.size;simp;omega
    intro v8 w8 ag ae _;have aq:Below w3.1.size w3 w8:=(hbo.trans TeY).trans ae;clear ae C0;go_wp2;go_roundw;exact⟨m+1,WQ,Zf,by rw[ab.o];exact ag,aq⟩;exact Ti
   simp only[List.concat_eq_append]at *;have hq:=a9 q XN;obtain⟨aO,aP,aQ⟩:=hq;clear a9;obtain⟨g,ao,rfl,TR,ye,aR,aS,Vq,Vr,Yi,hst⟩:=C0.last;have aV:i.length+1<=10000000:=by simp at ay;omega
   clear hst;by_cases he:q.1+q.2=t
   ·have Qu:(q.1+q.2==t)=VR:=by simp[he]
    have K2:qz (i++[q]) (t,t2-t)=i++[(q.1,q.2+(t2-t))]:=by
     unfold qz;simp[he]
    have Qz:=aa K2;replace he:=aa he;clear K2;go_wp2;go_quiet (fail);go_wp2
    (refine il 19 Yp Yp ?_;simp only[xi,iv,cQ,cL];(repeat(go_big_quiet_step (fail)));(with_reducible refine fR ?_);intro wq ia;obtain⟨nq,ia⟩:=ia;subst ia)
    go_wp2;go_roundw
    case rel =>
     refine⟨m+1,WQ,Zf,?_,?_⟩
     ·rw[ab.o,Qz.o];refine bM.setLast ?_ _;refine C0.below ?_;exact TbV
     refine Below.setCell ?_ (by exact TR) _;refine hbo.trans ?_;refine kt (B:=wc.1.size) ?_ hbo.size;exact TbV
    simp[intOf];omega
   have Qu:(q.1+q.2==t)=VN:=by simp[he]
   have K2:qz (i++[q]) (t,t2-t)=i++[q]++[(t,t2-t)]:=by
    unfold qz;simp[he]
   have Qz:=aa K2;clear K2 he;go_wp2;go_quiet (fail);go_wp2
   (refine uk 16 Yp lX rfl Yp Yp (fun _ _ _ _ h=>h) Tec ?_;simp only[xi,iv,cQ,cL];(repeat(go_big_quiet_step (fail)));(with_reducible refine fR ?_);intro wq ia;obtain⟨nq,ia⟩:=ia;subst ia)
   go_wp2_with(at_builtin;refine jg lX lX w3.1.size (i++[q]) (t,t2-t) lX ?c1 wc.1.size 1 lX ?c2 ?c3 ZY ?c4 ?_)
   case c1=>refine C0.below ?_;(repeat' (first|exact bj _ _|exact bk _|(refine dT ?_ ?_ _)|(refine aT ?_ _)|(refine mC ?_)|(simp;done)|(simp;omega)))
   try(case c2=>exact aD XN lX)
   try(case c3=>exact aD XN lX)
   case c4=>have:=hbo.size;simp;omega
   intro v8 w8 ag ae _;have aq:Below w3.1.size w3 w8:=(hbo.trans TeY).trans ae;clear ae C0;go_wp2;go_roundw;exact⟨m+1,WQ,Zf,by rw[ab.o,Qz.o];first|exact ag|simpa using ag,aq⟩;exact Ti
 have am:V7 ((m:Int)+1<(P.length:Int))=VN:=by simp;omega
 have yq:glue (Gf P f)=o:=by
  have:=ho.o;rw[jz WQ]at this;exact this.symm
 have gw:=GX P f HP.o.1;rw[yq]at gw;have j9:=aa gw;replace a9:=aa a9;clear yq gw;go_wp2;go_ret;have Ur:iE o fun n=>GN kind (kO a n) (kO b n)=VR:=by
  refine⟨j9.o.1,fun n=>(j9.o.2 n).trans ?_⟩;have aF:f=fun t=>GN kind (kO a t) (kO b t):=by
   rw[hf.o];funext t
   rw[Hy a t Zx.o,Hy b t Vn.o]
  rw[aF];refine xD a b (GN kind) (by rcases zE.o with rfl|rfl|rfl<;>rfl) P HP.o.1 (fun r hr=>?_) n;have:=Hu (a++b) r (by rw[oT];exact hr);exact⟨(HP.o.2 _).2 this.1,(HP.o.2 _).2 this.2⟩
 refine⟨_,o,rfl,a7.mono a8.size,Ur,?_,ay,mn a8 hb⟩;unfold dI;rw[eL];intro r hr;have:=a9.o r hr;unfold nT;simp;omega
def Ek(n m:Int):Bool:=V7 (1<=n)&&V7 (n<=m)
def Dr(r:aY):Bool:=Ek r.Gi 6&&Ek r.Gh 6&&V7 (r.Gi*r.Gh<=6)&&Ek r.Gc 4096
def clB(r:aY):Bool:=r.Gg==2||r.Gg==3
def xM(g:af)(r:aY):Bool:=if r.near.toList.isEmpty then !clB r else(aM g.F9 r.near).isSome
def eu(s:H6):Bool:=s.toList.isEmpty||mr s
def yZ(g:af)(r:aY):Int:=if Dr r=VN then 1 else if Ek r.Gg 5=VN then 17 else if xM g r=VN then 12 else if(eu r.tag&&eu r.sep)=VN then 2 else 0
def kP(g:af)(r:aY):Int:=if(mchk g).2=0 then yZ g r else(mchk g).2
def uT(n m:Int)(w:H7):Calls prog 133 #[Bm Sj n,Bm Sj m] w fun e w'=>e=S6 (Ft (Ek n m))/\w=w':=by
 go_enter func133,ntmps133
 by_cases h1:1<=n
 ·by_cases h2:n<=m
  ·go_wp2;go_ret;exact⟨ah (by simp[Ek,h1,h2]),rfl⟩
  go_wp2;go_ret;exact⟨ah (by simp[Ek,h2]),rfl⟩
 go_wp2;go_ret;exact⟨ah (by rw[Ek,cN (by omega:¬1<=n)];rfl),rfl⟩
def ry(s:H6)(w:H7)(hs:s.size<=9223372036854775807):Calls prog 119 #[By s] w fun e w'=>e=S6 (Ft (mr s))/\Below w.1.size w w':=Af s w hs
def Tam(x0:aY):Tab #[Bm Sj x0.Gi,Bm Sj x0.Gh,Bm Sj x0.Gc,Bm Sj x0.Gg,By x0.tag,By x0.near,By x0.sep]:=⟨⟩
structure jF(w:H7)(Bg Br:Nat)(g:af)(a:iX)(r:aY):Prop where
 g:w.heap[Bg]?=Vv (Sx (Zg g a) 31 (0,0))
 r:w.heap[Br]?=Vv (Sx (Tam r) 34 (0,0))
def jF.below{a:iX}(h:jF w Bg Br g a r)(hb:Below w.1.size w w'):jF w' Bg Br g a r :=
 ⟨(hb.block _ (aq h.g)).trans h.g,(hb.block _ (aq h.r)).trans h.r⟩
def jF.gc{a:iX}(h:jF w Bg Br g a r)(i:Nat)(z:zY)(hz:[By g.name,Bm U8 g.id,Bm Sj g.seq,Bm Sj g.Gd,Bm Sj g.next,FG a.tp (Wq g.tags) a.tc,FG a.dp (Wq g.Gb) a.dc,FG a.vp (Wq g.F9) a.vc,FG a.hp (Wq g.history) a.hc][i]?=Vv z):w.cell? (Bg,i)=Vv z:=by
 simp only[AN,h.g];simpa using hz
def jF.rc{a:iX}(h:jF w Bg Br g a r)(i:Nat)(z:zY)(hz:[Bm Sj r.Gi,Bm Sj r.Gh,Bm Sj r.Gc,Bm Sj r.Gg,By r.tag,By r.near,By r.sep][i]?=Vv z):w.cell? (Br,i)=Vv z:=by
 simp only[AN,h.r];simpa using hz
def FY(n:Int)(w:H7)(e:Ending)(w':H7):Prop:=e=S6 (Bm Sj n)/\Below w.1.size w w'
noncomputable def gF(g:af)(r:aY):QN:=if r.near.toList.isEmpty then [] else sP g r.near
def kR(g:af)(l:QN):QN:=l.flatMap fun nm=>((bH g.Gb nm).getD gT).tags
def jV(d:az):Bool:=!d.closed&&!d.missing
def jG(tag:H6)(d:az):Bool:=tag.toList.isEmpty||bI d.tags tag
def nN(near:QN)(p:Int)(d:az):Bool:=!(p==2)||bI near d.name
def vE(near tags:QN)(p:Int)(d:az):Bool:=!(p==3)||(bI near d.name||d.tags.any (bI tags))
def iD(near tags:QN)(r:aY)(d:az):Bool:=jV d&&(jG r.tag d&&(nN near r.Gg d&&vE near tags r.Gg d))
noncomputable def nD(g:af)(r:aY)(d:az):Bool:=iD (gF g r) (kR g (gF g r)) r d
def xy(g:af)(d:az)(n:Int):Prop:=(0<=n/\n<d.Gc)/\¬Mem (fM d.name d.Gc (pieces g.F9)) n
def qN(s:aB):wy (H6 × Int):=s.Ga.map fun a=>(a.on,a.start+iB s.kind s.length (Wq s.Ga))
def oZ(l:wy aB):wy (H6 × Int):=match l.getLast? with
 |some s=>if s.kind=1\/s.kind=2 then qN s else []
 |none=>[]
def jE(g:af)(nm:H6):wy (H6 × Int):=oZ ((aM g.F9 nm).getD eY).Gf
def su(nm:H6)(e:H6 × Int)(x:RU):RU:=x.filterMap fun r=>if e.1=nm/\r.1<=e.2/\e.2<r.1+r.2 then Vv (e.2,r.1+r.2-e.2) else VX
def mQ(ends:wy (H6 × Int))(nm:H6)(x:RU):RU:=ends.flatMap fun e=>su nm e x
def uM(r:aY):Bool:=r.Gg==1&&!r.near.toList.isEmpty
def kI(g:af)(r:aY)(d:az)(n:Int):Prop:=nD g r d=VR/\if uM r=VR then ∃x,iE x (xy g d)/\Mem (mQ (jE g r.near) d.name x) n else xy g d n
def CY(h:p∈su nm e x):e.1=nm/\p.1=e.2/\∃r∈x,r.1<=e.2/\e.2<r.1+r.2/\p.2=r.1+r.2-e.2:=by
 obtain⟨r,hr,hp⟩:=List.mem_filterMap.1 h;split at hp
 ·rename_i c;injection hp with hp;subst hp;exact⟨c.1,rfl,r,hr,c.2.1,c.2.2,rfl⟩
 cases hp
def Dl(h:p∈mQ ends nm x):∃e∈ends,e.1=nm/\p.1=e.2/\∃r∈x,r.1<=e.2/\e.2<r.1+r.2/\p.2=r.1+r.2-e.2:=by
 obtain⟨e,he,hp⟩:=BY.1 h;exact⟨e,he,CY hp⟩
def Iq(h:Mem (mQ ends nm x) n):Mem x n:=by
 obtain⟨p,hp,h1,h2⟩:=h;obtain⟨e,-,-,h3,r,hr,h4,h5,h6⟩:=Dl hp;exact⟨r,hr,WQ,WQ⟩
def xS(h:∀p∈x,0<=p.1/\1<=p.2/\p.1+p.2<=1073741824):dI (mQ ends nm x)=VR:=by
 unfold dI;rw[eL];intro p hp;obtain⟨e,-,-,h3,r,hr,h4,h5,h6⟩:=Dl hp;have:=h r hr;simp only[nT,eh,fk];omega
def wT(nm:H6)(e:H6 × Int)(x:RU):(su nm e x).length<=x.length:=List.length_filterMap_le _ _
def Dj(ends:wy (H6 × Int))(nm:H6)(x:RU):(mQ ends nm x).length<=ends.length*x.length:=lY _ _ _ fun e _=>wT nm e x
def Cc(s:aB):(qN s).length<=Wq s.Ga:=by
 unfold qN;rw[fW];exact bk _
def mem_of_getLast? :∀ {l:wy α} {x:α},l.getLast?=Vv x->x∈l
 |[],_,h=>by cases h
 |a :: l,x,h=>by
  rw[List.getLast?_eq_getElem?]at h;exact ct h
def Bu{l:wy aB}(h:∀s∈l,Wq s.Ga<=m):(oZ l).length<=m:=by
 unfold oZ;split
 ·rename_i s hs;split
  ·exact cA (Cc s) (h s (mem_of_getLast? hs))
  simp
 simp
def GG(h:kI g r d n):xy g d n:=by
 obtain⟨-,h⟩:=h;split at h
 ·obtain⟨x,hx,hm⟩:=h;exact(hx.2 n).1 (Iq hm)
 exact h
def D6(h:kP g r=0):(mchk g).2=0/\yZ g r=0:=by
 unfold kP at h;split at h
 ·rename_i hm;exact⟨hm,h⟩
 rename_i hm;exact absurd h hm
def iI(b:Bool)(w:H7)(e:Ending)(w':H7):Prop:=e=S6 (Ft b)/\Below w.1.size w w'
def Taq(x0:aY)(x1:Nat)(x2:IH)(x3:Nat)(x4:Nat)(x5:IH)(x6:Nat):Tab #[Bm Sj x0.Gi,Bm Sj x0.Gh,Bm Sj x0.Gc,Bm Sj x0.Gg,By x0.tag,By x0.near,By x0.sep,FG x2 x1 x3,FG x5 x4 x6]:=⟨⟩
structure BC(w:H7)(Bj Bd:Nat)(r:aY)(np jp:IH)(nc jc:Nat)(nl jl:QN)(d:az)(tp:IH)(tc:Nat):Prop where
 j:w.heap[Bj]?=Vv (Sx (Taq r nl.length np nc jl.length jp jc) 151 (0,0))
 d:w.heap[Bd]?=Vv (Sx (u0 d tp tc) 69 (0,0))
def BC.jc{jc:Nat}(h:BC w Bj Bd r np jp nc jc nl jl d tp tc)(i:Nat)(z:zY)(hz:[Bm Sj r.Gi,Bm Sj r.Gh,Bm Sj r.Gc,Bm Sj r.Gg,By r.tag,By r.near,By r.sep,FG np nl.length nc,FG jp jl.length jc][i]?=Vv z):w.cell? (Bj,i)=Vv z:=by
 simp only[AN,h.j];simpa using hz
def BC.dc{jc:Nat}(h:BC w Bj Bd r np jp nc jc nl jl d tp tc)(i:Nat)(z:zY)(hz:[By d.name,Bm U8 d.id,Bm Sj d.first,Bm Sj d.Gc,Ft d.closed,Ft d.missing,FG tp (Wq d.tags) tc][i]?=Vv z):w.cell? (Bd,i)=Vv z:=by
 simp only[AN,h.d];simpa using hz
def nM(w:H7)(r:aY)(np jp:IH)(nc jc:Nat)(nl jl:QN)(d:az)(tp:IH)(tc:Nat) :
  BC ((w.alloc (Sx (Taq r nl.length np nc jl.length jp jc) 151)).alloc (Sx (u0 d tp tc) 69)) w.1.size (w.1.size+1) r np jp nc jc nl jl d tp tc /\
   Below w.1.size w ((w.alloc (Sx (Taq r nl.length np nc jl.length jp jc) 151)).alloc (Sx (u0 d tp tc) 69)):=by
 have hA1:=ae w (Sx (Taq r nl.length np nc jl.length jp jc) 151);have hA2:=ae (w.alloc (Sx (Taq r nl.length np nc jl.length jp jc) 151)) (Sx (u0 d tp tc) 69);have US:=b9 w (Sx (Taq r nl.length np nc jl.length jp jc) 151);have sC:=b9 (w.alloc (Sx (Taq r nl.length np nc jl.length jp jc) 151)) (Sx (u0 d tp tc) 69);rw[cW]at sC;exact⟨⟨(hA2.block _ (aq US)).trans US,sC⟩,hA1.trans (hA2.mono hA1.size)⟩
def AX(r:aY)(np jp:IH)(nc jc:Nat)(nl jl:QN)(d:az)(tp:IH)(tc:Nat)(w:H7):Calls prog 88 #[Tk (Taq r nl.length np nc jl.length jp jc),Tk (u0 d tp tc)] w (iI (jV d) w):=by
 obtain⟨hat,hb⟩:=nM w r np jp nc jc nl jl d tp tc;replace hat:=aa hat;replace hb:=aa hb;have HR:Hid (jV d=(!d.closed&&!d.missing)):=aa lX;go_enter func88,ntmps88
 go_upto_region 1 with(fail);generalize RE:AI (AI w _) _=W1 at *;clear RE;obtain⟨d0,d1,d2,d3,d4,d5,d6⟩:=se hat.o.dc;cases hc:d.closed with
 |true =>
  rw[hc]at d4 HR;go_wp2;go_ret;exact⟨Tdm,hb.o⟩
 |false =>
  rw[hc]at d4 HR;cases hm:d.missing with
  |true =>
   rw[hm]at d5 HR;go_wp2;go_ret;exact⟨Tdm,hb.o⟩
  |false =>
   rw[hm]at d5 HR;go_wp2;go_ret;exact⟨Tdm,hb.o⟩
def zl{ok:LN}(r:aY)(np jp:IH)(nc jc:Nat)(nl jl:QN)(d:az)(tp:IH)(tc:Nat)(w:H7)(ht:ck aF 1 ok w [FG tp (Wq d.tags) tc] d.tags)(nt:Wq d.tags<=1000000):Calls prog 89 #[Tk (Taq r nl.length np nc jl.length jp jc),Tk (u0 d tp tc)] w (iI (jG r.tag d) w):=by
 obtain⟨hat,hb⟩:=nM w r np jp nc jc nl jl d tp tc;replace hat:=aa hat;replace hb:=aa hb;have HT:=aa ((ck.moves aF.moves).mv (Mv.of hb.o) ht);clear ht;have HR:Hid (jG r.tag d=(r.tag.toList.isEmpty||bI d.tags r.tag)):=aa lX;go_enter func89,ntmps89
 go_upto_region 1 with(fail);generalize RE:AI (AI w _) _=W1 at *;clear RE;have dL:=hat.o.dc;have d6:=dL 6 _ lX;clear dL;have jL:=hat.o.jc;have j4:=jL 4 _ lX;clear jL;have HC:=aa (eT d.tags r.tag W1 HT.o nt);clear HT;cases PE:r.tag.toList.isEmpty with
 |true =>
  rw[PE]at HR;go_wp2;go_ret;exact⟨Tdm,hb.o⟩
 |false =>
  rw[PE]at HR;go_wp2_with(refine HC.o.mono ?_;rintro e w5 ⟨rfl,rfl⟩)
  go_ret;exact⟨Tdm,hb.o⟩
def yM{ok:LN}(r:aY)(np jp:IH)(nc jc:Nat)(nl jl:QN)(d:az)(tp:IH)(tc:Nat)(w:H7)(hn:ck aF 1 ok w [FG np nl.length nc] nl)(zr:nl.length<=1000000):Calls prog 90 #[Tk (Taq r nl.length np nc jl.length jp jc),Tk (u0 d tp tc)] w (iI (nN nl r.Gg d) w):=by
 obtain⟨hat,hb⟩:=nM w r np jp nc jc nl jl d tp tc;replace hat:=aa hat;replace hb:=aa hb;have HT:=aa ((ck.moves aF.moves).mv (Mv.of hb.o) hn);clear hn;have HR:Hid (nN nl r.Gg d=(!(r.Gg==2)||bI nl d.name)):=aa lX;go_enter func90,ntmps90
 go_upto_region 1 with(fail);generalize RE:AI (AI w _) _=W1 at *;clear RE;have dL:=hat.o.dc;have d0:=dL 0 _ lX;clear dL;have jL:=hat.o.jc;have j3:=jL 3 _ lX;have j7:=jL 7 _ lX;clear jL;have HC:=aa (eT nl d.name W1 HT.o zr);clear HT;cases hp:(r.Gg==2)with
 |false =>
  have a5:(r.Gg != 2)=VR:=by simpa[bne]using hp
  rw[hp]at HR;go_wp2;go_ret;exact⟨Tdm,hb.o⟩
 |true =>
  have a5:(r.Gg != 2)=VN:=by simpa[bne]using hp
  rw[hp]at HR;go_wp2_with(refine HC.o.mono ?_;rintro e w5 ⟨rfl,rfl⟩)
  go_ret;exact⟨Tdm,hb.o⟩
def Js{ok:LN}(x:H6)(Bj:Nat)(jp:IH)(jc:Nat)(jl:QN)(w:H7)(h8:w.cell? (XM Bj 8)=Vv (FG jp jl.length jc))(hj:ck aF 1 ok w [FG jp jl.length jc] jl)(vt:jl.length<=1000000):Calls prog 139 #[By x,SL (Vv Bj)] w fun e w'=>e=S6 (Ft (bI jl x))/\w=w':=by
 have HC:=aa (eT jl x w hj vt);clear hj;go_enter func139,ntmps139
 go_wp2_with(refine HC.o.mono ?_;rintro e w5 ⟨rfl,rfl⟩)
 go_ret;exact⟨rfl,rfl⟩
def pG{ok:LN}(l:QN)(v:zY)(Bj:Nat)(jp:IH)(jc:Nat)(jl:QN)(w:H7)(h:ck aF 1 ok w [v] l)(hl:l.length<=1000000)(h8:w.cell? (XM Bj 8)=Vv (FG jp jl.length jc))(hj:ck aF 1 ok' w [FG jp jl.length jc] jl)(vt:jl.length<=1000000):Calls prog 168 #[v,.func (.func 139) #[] #[Bj]] w fun e w'=>(∃r:Int,e=S6 (Bm Sj r)/\V7 (0<=r)=l.any (bI jl))/\w=w':=by
 obtain⟨p,cap,rfl,a8,a9⟩:=h.cap;have HH:=aa h;clear h;have HC:=aa (fun x=>Js (ok:=ok') x Bj jp jc jl w h8 hj vt);clear h8 hj vt;go_enter func168,ntmps168;go_wp2
 go_loop[8,5] (fun i _=>∃k:Nat,k<=l.length/\i=Bm Sj k/\(l.take k).any (bI jl)=VN) (fun i _=>l.length-(intOf i).toNat)
 exact⟨0,cg _,rfl,rfl⟩;obtain⟨k,hk,rfl,hall⟩:=hrel;have cE:=aa hall;clear hall;by_cases hlt:k<l.length
 ·obtain⟨y,hy⟩:=aj l k hlt;obtain⟨b,off,us,rfl,gR,cX,ez,eE,a5⟩:=HH.o.elem hy;obtain rfl:us=_:=eE;have q0:=a5 0 _ lX;rw[fp,fg]at q0;have a7:Hid ((l.take (k+1)).any (bI jl)=bI jl y):=aa (by rw[take_snoc' l k y hy,rj,cE.o];simp);have AE:Hid (bI jl y=VR->l.any (bI jl)=VR):=aa fun h=>GP.2 ⟨y,ct hy,h⟩;clear hy cE a5 ez;have Us:=aa (HC.o y);cases hs:bI jl y with
  |true =>
   rw[hs]at Us;have HR:=aa (AE.o hs);clear hs;go_wp2_with(refine Us.o.mono ?_;rintro e w5 ⟨rfl,rfl⟩)
   go_ret;exact⟨⟨k,rfl,by rw[HR.o];simp⟩,rfl⟩
  |false =>
   rw[hs]at Us;have HR:=aa (a7.o.trans hs);clear hs;go_wp2_with(refine Us.o.mono ?_;rintro e w5 ⟨rfl,rfl⟩)
   go_round;exact⟨k+1,WQ,Zf,HR.o⟩;exact Ti
 exact Tca
def mg{ok:LN}(l:QN){v:zY}(Bj:Nat)(jp:IH)(jc:Nat)(jl:QN)(w:H7)(h:ck aF 1 ok w [v] l)(hl:l.length<=1000000)(h8:w.cell? (XM Bj 8)=Vv (FG jp jl.length jc))(hj:ck aF 1 ok' w [FG jp jl.length jc] jl)(vt:jl.length<=1000000):Calls prog 138 #[v,.func (.func 139) #[] #[Bj]] w fun e w'=>e=S6 (Ft (l.any (bI jl)))/\w=w':=by
 go_enter func138,ntmps138
 go_wp2_with fail;refine(pG (ok:=ok) (ok':=ok') l v Bj jp jc jl w h hl h8 hj vt).mono ?_;exact Tcg
def ym{ok a5:LN}(r:aY)(np jp:IH)(nc jc:Nat)(nl jl:QN)(d:az)(tp:IH)(tc:Nat)(w:H7)(hn:ck aF 1 ok w [FG np nl.length nc] nl)(zr:nl.length<=1000000)(ht:ck aF 1 ok' w [FG tp (Wq d.tags) tc] d.tags)(nt:Wq d.tags<=1000000)(hj:ck aF 1 a5 w [FG jp jl.length jc] jl)(vt:jl.length<=1000000):Calls prog 91 #[Tk (Taq r nl.length np nc jl.length jp jc),Tk (u0 d tp tc)] w (iI (vE nl jl r.Gg d) w):=by
 obtain⟨hat,hb⟩:=nM w r np jp nc jc nl jl d tp tc;replace hat:=aa hat;replace hb:=aa hb;have HN:=aa ((ck.moves aF.moves).mv (Mv.of hb.o) hn);clear hn;have HT:=aa ((ck.moves aF.moves).mv (Mv.of hb.o) ht);clear ht;have HJ:=aa ((ck.moves aF.moves).mv (Mv.of hb.o) hj);clear hj;have HR:Hid (vE nl jl r.Gg d=(!(r.Gg==3)||(bI nl d.name||d.tags.any (bI jl)))):=aa lX;go_enter func91,ntmps91
 go_upto_region 1 with(fail);generalize RE:AI (AI w _) _=W1 at *;clear RE;have dL:=hat.o.dc;have d0:=dL 0 _ lX;have d6:=dL 6 _ lX;clear dL;have jL:=hat.o.jc;have j3:=jL 3 _ lX;have j7:=jL 7 _ lX;have j8:=jL 8 _ lX;clear jL;have HC:=aa (eT nl d.name W1 HN.o zr);have HD:=aa (mg d.tags w.1.size jp jc jl W1 HT.o nt j8 HJ.o vt);clear HN HT HJ j8;cases hp:(r.Gg==3)with
 |false =>
  have a7:(r.Gg != 3)=VR:=by simpa[bne]using hp
  rw[hp]at HR;go_wp2;go_ret;exact⟨Tdm,hb.o⟩
 |true =>
  have a7:(r.Gg != 3)=VN:=by simpa[bne]using hp
  rw[hp]at HR;cases hh:bI nl d.name with
  |true =>
   rw[hh]at HC HR;go_wp2_with(refine HC.o.mono ?_;rintro e w5 ⟨rfl,rfl⟩)
   go_ret;exact⟨Tdm,hb.o⟩
  |false =>
   rw[hh]at HC HR;go_wp2_with(first|(refine HC.o.mono ?_;rintro e w5 ⟨rfl,rfl⟩)|(refine HD.o.mono ?_;rintro e w5 ⟨rfl,rfl⟩))
   go_ret;exact⟨Tdm,hb.o⟩
def iC(B:Nat)(w:H7)(v:zY)(l:wy aR):Prop:=bF aQ 3 53 B (fun _=>False) w v l
def iC.nil(B:Nat)(w:H7):iC B w (FG VX 0 0) []:=⟨[],gS _ _ _ 3,rfl⟩
def iC.keep(h:iC B w v l)(hz:w.1.size<=w'.1.size)(hk:∀k,v.ownBlock=Vv k->w'.1[k]?=w.1[k]?):iC B w' v l:=by
 obtain⟨cs,ho,hf⟩:=h;exact⟨cs,aC ho hk,Flat.moves aQ.moves ⟨hz,fun b _ f=>f.elim⟩ _ _ hf⟩
def iC.below(h:iC B w v l)(hb:Below w.1.size w w'):iC B w' v l:=by
 exact Tcz
def iC.notSeg(h:iC B w v l)(hk:w.1[k]?=Vv (Sx cs 55 z)):v.ownBlock≠Vv k:=fun e=>by
 obtain⟨_,ho,_⟩:=h;rcases ho.2 with⟨rfl,_⟩|⟨g,cap,a5,rfl,_,XQ,_⟩
 ·cases e
 obtain rfl:g=k:=by injection e
 rw[hk]at XQ;injection XQ with XQ;injection XQ with _ XQ _
 cases XQ
def iC.ge(h:iC B w v l)(e:v.ownBlock=Vv k):B<=k/\k<w.1.size:=by
 exact TcL
def iC.mono(h:iC B w v l)(hB:B'<=B):iC B' w v l:=by
 obtain⟨cs,⟨h1,h2⟩,hf⟩:=h;refine⟨cs,⟨h1,?_⟩,hf⟩;exact TcY
def kJ(s:aB)(a:aR):aR:=⟨VN,a.on,a.start+iB s.kind s.length (Wq s.Ga)⟩
def rF{Q:N2}{c0 c1 c2 c3 c4 c5 c6 c9 ZS ao Sf TO RK RW Rr SO Se St W0 ZD Wg Wr To UP aE ab eS da dj dq fs gE ff fb fa mT me ph qe qk mu mw mx nF pr o4 oE oR oS pe qt qv rl rm sE sa sd:zY}(w:H7)(B Bs Ba:Nat)(ap eN:IH)(ac eR:Nat)(s:aB)(a:aR){l:wy aR}
  (hB:B<=w.1.size) (hal:Wq s.Ga<=1000) (hll:l.length<=100000) (On:0<=s.length/\s.length<=1000000) (hst:0<=a.start/\a.start<=1000000)
  (hs:w.1[Bs]?=Vv (Sx (ZN s ap ac eN eR) 55 (0,0))) (Sr:Ba<w.1.size) (a8:w.cell? (XM Ba 1)=Vv (By a.on)) (a9:w.cell? (XM Ba 2)=Vv (Bm Sj a.start))
  (hO:iC B w v8 l)
  (HK:Hid (∀(v':zY) (w':H7) (u47 u48 u49 u50 u51 u52 u53 u54 u55 u56 u57:zY),iC B w' v' (l++[kJ s a])->Below B w w'->w'.1[Bs]?=w.1[Bs]?->Q .normal ⟨#[c0,c1,c2,c3,c4,c5,c6,SL (Vv Bs),v',c9,SL (Vv Ba),ZS,ao,Sf,TO,RK,RW,Rr,SO,Se,St,W0,ZD,Wg,Wr,To,UP,aE,ab,eS,da,dj,dq,fs,gE,ff,fb,fa,mT,me,ph,qe,qk,mu,mw,mx,nF,u47,u48,u49,u50,u51,u52,u53,u54,u55,u56,u57,sa,sd],[]⟩ w'))
  (hQ:∀c (a:Act) (d:Tmp) (v:zY) w,Q (.panic c) (a.put (Vv d) v) w->Q (.panic c) a w) :
  (Ai Tryz.f143 12).wp prog Q ⟨#[c0,c1,c2,c3,c4,c5,c6,SL (Vv Bs),v8,c9,SL (Vv Ba),ZS,ao,Sf,TO,RK,RW,Rr,SO,Se,St,W0,ZD,Wg,Wr,To,UP,aE,ab,eS,da,dj,dq,fs,gE,ff,fb,fa,mT,me,ph,qe,qk,mu,mw,mx,nF,pr,o4,oE,oR,oS,pe,qt,qv,rl,rm,sE,sa,sd],[]⟩ w:=by
 conv=>arg 2;whnf
 have GF:=aq hs;have sL:∀(j:Nat) (z:zY),[Bm Sj s.start,Bm Sj s.length,Bm Sj s.kind,FG ap (Wq s.Ga) ac,Bm Sj s.chunk,FG eN (Wq s.stale) eR,By s.log,By s.pool,Bm Sj s.device,Bm Sj s.mode,Bm Sj s.done][j]?=Vv z->∀q:fo,(ext w q).cell? ⟨Bs,j,VX⟩=Vv z:=fun j z hz=>aG GF (by
  simp only[AN,hs];simpa using hz)
 have s0:=IC sL;have a1:=aG Sr a8;have a2:=aG Sr a9;replace hO:=aa hO;replace hs:=aa hs;have a5:=On.1;have a7:=On.2;have aj:=hst.1;have ak:=hst.2;have av:0<=iB s.kind s.length (Wq s.Ga):=by
  unfold iB;split
  ·exact lz a5 WQ
  exact a5
 have aw:iB s.kind s.length (Wq s.Ga)<=1000000:=by
  unfold iB;split
  ·exact Int.le_trans (mS _ a5) a7
  exact a7
 obtain⟨i0,hi,du,R0,RC⟩:=gg kL;replace hi:=aa hi;replace du:=aa du;replace R0:=aa R0;replace RC:=aa RC;have am:Hid (kJ s a=⟨VN,a.on,a.start+iB s.kind s.length (Wq s.Ga)⟩):=aa lX;have Ss:=aa (fun w':H7=>ji s.start s.length s.kind s.chunk s.device s.mode s.done ap eN (Wq s.Ga) ac (Wq s.stale) eR s.log s.pool w' a5 WQ WQ);generalize au:iB s.kind s.length (Wq s.Ga)=ex at *;have ay:IntKind.i64.wrap (a.start+ex)=a.start+ex:=dy _ WQ;clear sL a8 a9 On hst au;(refine lG 8 Yp lX rfl Yp Yp (fun _ _ _ _ h=>hQ _ _ _ _ _ h) Tec ?_;simp only[xi,iv,cQ,cL])
 repeat(go_big_quiet_step ((go_at_call 73;exact iH (Ss.o _))))
 with_reducible refine fR ?_
 intro wq ia;have kq:=dY ia;clear ia s0 a1 a2 Ss;have af:=hO.o.below kq;have G2:=ae wq (Sx #[VN,a.on,Bm Sj (a.start+ex)] 53);have ag:=af.below G2;have ah:=aa ag;have pL:=aa G2;have Tp:=aa kq;have PF:=cA hB kq.size;clear af ag G2 kq;go_wp2_with(at_builtin;refine dX aQ.moves underlying47 hi.o du.o R0.o RC.o lX YR YR lX lX B (fun _=>False) v8 l ⟨VN,a.on,a.start+ex⟩ lX ah.o wq.1.size 1 [Ft VN,By a.on,Bm Sj (a.start+ex)] lX rfl rfl ?d3 ?d4 ?d5 ?d6 (fun _ _ f=>f) ?_)
 all_goals first|(case d3=>(simp[Value.oneCell']))|(case d4=>(intro j y hy;exact aD lX Tdr))|(case d5=>omega)|(case d6=>omega)|(case d6=>simp only[cW];omega)|skip
 intro gb cap w3 hp;have CT:∀j,j<w.1.size->v8.ownBlock≠Vv j->w3.1[j]?=w.1[j]?:=fun j hj hne=>(hp.grown.block j (cC hj (cA Tp.o.size pL.o.size)) (fun e=>hne e.symm)).trans ((pL.o.block j (cC hj Tp.o.size)).trans (Tp.o.block j hj));have jn:Below B w w3:=((Tp.o.mono hB).trans (pL.o.mono PF)).grown hp.grown Tep (fun j e=>(ah.o.ge e).1);have hS:=CT Bs GF (hO.o.notSeg hs.o);have Qt:=hp.own;rw[<- am.o]at Qt;have HOW:=aa Qt;have PG:=aa jn;replace hS:=aa hS;clear hp Qt jn CT;go_wp2;exact HK.o _ _ _ _ _ _ _ _ _ _ _ _ _ HOW.o PG.o hS.o
def D7(w:H7)(l:wy (H6 × Int))(e:Ending)(w':H7):Prop:=∃v,e=S6 v/\iC w.1.size w' v (l.map fun x=>⟨VN,x.1,x.2⟩)/\Below w.1.size w w'
def yg{l:wy aB}(h:l=[]):oZ l=[]:=by subst h;rfl
def Dn{l:wy aB}(hl:0<l.length)(h:l[l.length-1]?=Vv s):oZ l=if s.kind=1\/s.kind=2 then qN s else []:=by
 unfold oZ;rw[List.getLast?_eq_getElem?,h]
def Tbp(h:gt:=by
 ·have qT:Hid (jE g nm=[]):=aa (by rw[PH.o,HE.o,bh hk]);have n1:(s.kind != 1)=VR:=by simp;exact fun q=>hk (.inl q)
  have n2:(s.kind != 2)=VR:=by simp;exact fun q=>hk (.inr q)
  clear hk;go_wp2;go_ret;exact⟨_,rfl,by rw[qT.o];exact iC.nil _ _,eI.o⟩):=h
def TbT(h:gt:=by
 cases hf:aM g.F9 nm with
 |none=>simp[eY]
 |some v =>
  have hv:=eV hf;exact⟨(ht v hv).1,fun s hs=>⟨(ht v hv).2 s hs,CH v hv s hs⟩⟩):=h
def Tfb(h:gt:=by rw[qT.o];unfold qN;rw[List.map_map];rfl):=h
def Ta5(h:gt:=by
 go_upto_region 9 with(fail);clear s3;go_loopw[8,40] (fun lv i wr=>∃k:Nat,k<=Wq s.Ga/\i=Bm Sj k/\iC W4.1.size wr lv ((s.Ga.take k).map (kJ s))/\Below W4.1.size W4 wr) (fun _ i _=>Wq s.Ga-(intOf i).toNat)
 exact⟨0,cg _,rfl,iC.nil _ _,bj _ _⟩;obtain⟨k,hk,rfl,hown,hB⟩:=hrel;have HOW:=aa hown;clear hown;have HB:=aa hB;clear hB;by_cases hlt:k<Wq s.Ga
 ·obtain⟨x,hx⟩:=aj s.Ga k hlt;obtain⟨b3,off3,us3,hsp3,B7,PV,pT,Tr,hcv3⟩:=ya.o.elem hx;subst hsp3;obtain rfl:us3=_:=Tr;have Tl:wr.1[b3]?=W4.1[b3]?:=HB.o.block b3 PV;obtain⟨q0,q1,q2⟩:=Mn Tl hcv3;have HTS:Hid ((s.Ga.take (k+1)).map (kJ s)=(s.Ga.take k).map (kJ s)++[kJ s x]):=aa (by rw[take_snoc' s.Ga k x hx,gl];rfl);have pS:=HVL.o x (ct hx);have hst:=sY.o x (ct hx);clear hx hcv3 pT Tl;rw[pS]at q0;have mA:=HB.o.size;have hA:=ae wr (Sx (TaC x) 53);have yb:=aa (b9 wr (Sx (TaC x) 53));have cm:=aa (HB.o.trans (hA.mono mA));have HOW2:=aa (HOW.o.below hA);clear hA;go_upto_region 11 with(fail);clear q0 q1 q2;generalize hW5:World.alloc wr _=W5 at *;generalize hBa:wr.1.size=Ba at *;clear hW5 HB HOW;obtain⟨a0,a1,a2⟩:=sv3 (cr yb.o);go_upto_region 12 with(fail);refine rF W5 W4.1.size Bs Ba (Vv ⟨b3,off3,VX⟩) eN ac eR s x cm.o.size hal (by rw[fW,ey];omega) HLN.o hst ((cm.o.block _ (aq lj.o)).trans lj.o) (aq yb.o) a1 a2 HOW2.o (aa ?_) ?hQ
  case hQ=>exact fun _ _ _ _ _ h=>h
  intro v' w' u47 u48 u49 u50 u51 u52 u53 u54 u55 u56 u57 ho' hb' hs';have HO':=aa ho';clear ho';have Ks:=aa (cm.o.trans hb');clear hb' hs' a0 a1 a2;go_wp2;go_roundw;exact⟨k+1,WQ,Zf,by rw[HTS.o];exact HO'.o,Ks.o⟩;exact Ti
 obtain rfl:k=Wq s.Ga:=by omega
 rw[cI]at HOW;have HE3:Hid ((jE g nm).map (fun x=>(⟨VN,x.1,x.2⟩:aR))=s.Ga.map (kJ s)):=aa Tfb;go_wp2;go_ret;exact⟨_,rfl,by rw[HE3.o];exact HOW.o.mono Zu.o,eI.o.trans (HB.o.mono Zu.o)⟩):=h
def Tcv(h:gt:=by
 rcases hk with q|q
 ·exact .inl (by simp[q])
 exact .inr ⟨by simp[q],by simp[q]⟩):=h
def TeJ(h:gt:=by rw[PH.o,HE.o];exact iC.nil _ _):=h
def Cr{ok:LN}(g:af)(a:iX)(nm:H6)(w:H7)(hr:ck aN 6 ok w [FG a.vp (Wq g.F9) a.vc] g.F9)(hz:JT g)(ht:qx g.F9)(CH:∀v∈g.F9,∀s∈v.Gf,fP s->∀a∈s.Ga,0<=a.start/\a.start<=1000000):Calls prog 143 #[Tk (Zg g a),By nm] w (D7 w (jE g nm)):=by
 replace hr:=aa hr;replace hz:=aa hz;have hA1:=ae w (Sx (Zg g a) 31);replace hA1:=aa hA1;have CN:=aa (b9 w (Sx (Zg g a) 31));have gL:=cr CN.o;go_enter func143,ntmps143
 go_upto_region 1 with(fail);generalize RE:AI w _=W1 at *;have g0:=xr gL;clear gL RE;have HCV:=aa (fA (ok:=fun b=>ok b/\b<w.1.size) g a nm W1 ((ck.moves aN.moves).mv ⟨hA1.o.size,fun b hb ho=>⟨⟨ho,hb⟩,hA1.o.block b hb⟩⟩ hr.o) hz.o.vl hz.o.vz);go_wp2_with fail;clear g0;refine HCV.o.mono ?_;clear HCV;rintro e w2 ⟨u,rfl,sA,hb2⟩;have eE:((aM g.F9 nm).getD eY).Gf.length<=1000/\∀s∈((aM g.F9 nm).getD eY).Gf,((0<=s.length/\s.length<=1000000)/\Wq s.Ga<=1000/\(fP s->∀a∈s.Ga,a.vol=VN))/\(fP s->∀a∈s.Ga,0<=a.start/\a.start<=1000000):=by
  exact TbT
 have XU:=aa eE.2;have mb:=eE.1;have PH:Hid (jE g nm=oZ ((aM g.F9 nm).getD eY).Gf):=aa lX;generalize (aM g.F9 nm).isSome=YW at *;generalize hv:(aM g.F9 nm).getD eY=v at *;have cm:=YS hA1 hb2;obtain⟨tv,sv,rfl,ew,gA⟩:=sA;obtain⟨tp,tc,rfl,_,_⟩:=ew.cap;obtain⟨sp,sc,rfl,a7,a8⟩:=gA.cap;clear ew hb2 hv eE ht CH;have hA:=ae w2 (Sx (ZM v tp tc sp sc) 46);have zv:=aa (b9 w2 (Sx (ZM v tp tc sp sc) 46));have cJ:=YS cm hA;have Zv:=aa ((ck.moves bC.moves).mv (Mv.of hA) gA);clear gA hA cm;go_upto_region 2 with(fail);generalize a9:AI w2 _=W3 at *;generalize ai:w2.1.size=Bv at *;clear a9;have v5:=cr zv.o 5 _ lX;by_cases h0:Wq v.Gf=0
 ·have HE:Hid (oZ v.Gf=[]):=aa (yg (fX h0));go_wp2;go_ret;exact⟨_,rfl,TeJ,cJ.o⟩
 obtain⟨s,hs⟩:=aj v.Gf (Wq v.Gf-1) WQ;have HE:=aa (Dn WQ hs);obtain⟨b,off,us,yp,gR,cX,ez,eE,a5⟩:=Zv.o.elem hs;subst yp;have Su:=aa (XU.o s (ct hs));obtain⟨av,Rn,rfl,o0,hst⟩:=eE;obtain⟨ap,ac,rfl,_,_⟩:=o0.cap;obtain⟨eN,eR,rfl,_,_⟩:=hst.cap;have cT:W3.1[b]?=W3.1[b]?:=rfl;obtain⟨q0,q1,q2,q3,q4,q5,q6,q7,q8,q9,ab⟩:=ak5 cT a5;have YX:((Wq v.Gf:Int)-1)=((Wq v.Gf-1:Nat):Int):=by omega
 clear hs a5 ez cT hst XU;have hA:=ae W3 (Sx (ZN s ap ac eN eR) 55);have lj:=aa (b9 W3 (Sx (ZN s ap ac eN eR) 55));have eI:=YS cJ hA;have ya:=aa ((ck.moves aQ.moves).mv (Mv.of hA) o0);clear o0 hA cJ;go_upto_region 4 with(fail);go_upto_region 5 with(fail);generalize ag:AI W3 _=W4 at *;generalize ak:W3.1.size=Bs at *;clear ag q0 q1 q2 q3 q4 q5 q6 q7 q8 q9 ab v5;have s2:=cr lj.o 2 _ lX;have s3:=cr lj.o 3 _ lX;by_cases hk:s.kind=1\/s.kind=2
 ·have qT:Hid (jE g nm=qN s):=aa (by rw[PH.o,HE.o,aw hk]);have G0:fP s:=by rcases hk with q|q;exact .inl q;exact .inr (.inl q)
  have HVL:=aa (Su.o.1.2.2 G0);have sY:=aa (Su.o.2 G0);have hal:=Su.o.1.2.1;have HLN:=aa Su.o.1.1;clear HE PH Su G0;have ah:∃P:Prop,P:=⟨True,trivial⟩
  have key:(s.kind != 1)=VN\/((s.kind != 1)=VR/\(s.kind != 2)=VN):=by
   exact Tcv
  clear hk ah;have Zu:Hid (w.1.size<=W4.1.size):=aa eI.o.size;rcases key with n1|⟨n1,n2⟩
  ·go_upto_region 8 with(fail);clear n1 s2;exact Ta5
  go_upto_region 8 with(fail);clear n1 n2 s2;exact Ta5
 exact Tbp
def EX:(prog.info? 92).map (fun i=>(i.zero,i.size,i.bytes))=Vv (Vv (FG VX 0 0),1,24):=by kernel_rfl
def bM.ne{l:RU}{t:TypeId}(h:bM w B v l)(hb:w.1[b]?=Vv (Sx cs t z))(ht:t≠49):v.ownBlock≠Vv b:=fun e=>by
 obtain⟨-,h2⟩:=h;rcases h2 with⟨rfl,_⟩|⟨g,cap,a5,rfl,_,hg,_⟩
 ·cases e
 have:g=b:=by simpa[Value.ownBlock]using e
 subst this;rw[hb]at hg;injection hg with hg;injection hg with _ e2;exact ht e2
def bM.blk{l:RU}(h:bM w B v l)(hk:∀k,v.ownBlock=Vv k->w'.1[k]?=w.1[k]?):bM w' B v l:=aC h hk
def bM.slice{l:RU}(h:bM w B v l):∃p n c,v=FG p n c:=by
 obtain⟨-,h2⟩:=h;rcases h2 with⟨rfl,_⟩|⟨g,cap,a5,rfl,_⟩
 ·exact⟨_,_,_,rfl⟩
 exact⟨_,_,_,rfl⟩
def fH(w:H7)(B:Nat)(v:zY)(xs:wy RU):Prop :=
 ∃vs:RH,w.ownsRow B 92 1 v xs.length vs/\vs.length=xs.length/\∀(i:Nat) (u:zY) (x:RU),vs[i]?=Vv u->xs[i]?=Vv x->bM w B u x
def fH.nil(w:H7)(B:Nat):fH w B (FG VX 0 0) []:=⟨[],gS w B _ 1,rfl,fun i u x h=>by cases h⟩
def fH.blk(h:fH w B v xs)(hk:∀k,B<=k->k<w.1.size->w'.1[k]?=w.1[k]?):fH w' B v xs:=by
 obtain⟨vs,h1,h2,h3⟩:=h;refine⟨vs,aC h1 fun k e=>hk k (fh h1 k e).1 (fh h1 k e).2,h2,fun i u x hu hx=>?_⟩;have ho:=h3 i u x hu hx;exact ho.blk fun k e=>hk k (fh ho k e).1 (fh ho k e).2
def fH.below(h:fH w B v xs)(hb:Below w.1.size w w'):fH w' B v xs:=h.blk fun k _ hk=>hb.block k hk
def Tbu(h:gt:=by
 obtain⟨vs,⟨h0,h1⟩,h2,h3⟩:=h;refine⟨vs,⟨h0,?_⟩,h2,fun i u x hu hx=>(h3 i u x hu hx).mono hB⟩;rcases h1 with hn|⟨g,cap,cur,hv,pC,r⟩
 ·exact .inl hn
 exact .inr ⟨g,cap,cur,hv,WQ,r⟩):=h
def fH.mono(h:fH w B v xs)(hB:B'<=B):fH w B' v xs:=by
 exact Tbu
def Tbv(h:gt:=by
 obtain⟨vs,⟨h0,h1⟩,h2,h3⟩:=h;rcases h1 with⟨rfl,hn⟩|⟨g,cap,cur,rfl,pC,hg,vr,hcm,r⟩
 ·exact⟨VX,0,by rw[hn],WQ,WQ⟩
 exact⟨_,cap,rfl,vr,Tds⟩):=h
def fH.cap(h:fH w B v xs):∃p c,v=FG p xs.length c/\xs.length<=c/\c<=9223372036854775807:=by
 exact Tbv
def Tbd(h:gt:=by
 obtain⟨vs,⟨h0,h1⟩,h2,h3⟩:=h;have hk:=(List.getElem?_eq_some_iff.1 hx).1;rcases h1 with⟨hv,hn⟩|⟨g,cap,cur,hv,pC,hg,vr,hcm,hcs,ht⟩
 ·omega
 injection hv with e1 _ e3;subst e1;obtain⟨u,hu⟩:=aj vs k WQ;refine⟨g,u,rfl,pC,(Array.getElem?_eq_some_iff.1 hg).1,?_,h3 k u x hu hx⟩;have hu':=hu;rw[<- ht,ri WQ]at hu';rw[cell_of_row w g k cur _ (0,0) hg];simpa using hu'):=h
def fH.at{p:IH}{n c:Nat}(h:fH w B (FG p n c) xs)(hx:xs[k]?=Vv x) :
  ∃b u,p=Vv ⟨b,0,VX⟩/\B<=b/\b<w.1.size/\w.cell? ⟨b,k,VX⟩=Vv u/\bM w B u x:=by
 exact Tbd
def iA(a8:o.guard=VX){s x:Operand}
  (ho:o.op=.call { callee:=.builtin .append,args:=#[s,x],argTypes:=#[41,41] })
  (B:Nat) {v:zY} (xs:wy RU) (u:zY) (l:RU) (hs:a.eval s=v) (a7:fH w B v xs) (hu:bM w B u l) (g c:Nat) (hx:a.eval x=FG (Vv g) 1 c)
  (hc:w.cell? g=Vv u) (hl:xs.length<=100000000) (hB:B<=w.1.size)
  (h:∀v' w',fH w' B v' (xs++[l])->Below B w w'->(∀(b:Nat) (cs:Array zY) (t:TypeId) (z:Nat × Nat),w.1[b]?=Vv (Sx cs t z)->t≠92->w'.1[b]?=w.1[b]?)->wpList prog ops Q rest (a.put o.dst v') w'):wpList prog ops Q (o :: rest) a w:=by
 obtain⟨i0,hi,du,R0,RC⟩:=gg EX;obtain⟨vs,h1,h2,h3⟩:=a7;obtain⟨pu,nu,cu,rfl⟩:=hu.slice;refine tE w a8 s x 41 ho B 92 i0 _ 1 24 underlying41 hi du R0 RC lX YR v xs.length vs hs h1 ⟨g,0,VX⟩ 1 c [FG pu nu cu] hx lX (fun j y hy=>?_) Tdj Tdh WQ hB (fun v' w' a9 hg _=>?_)
 ·rw[iz,eJ]
  match j,hy with
  |0,hy =>
   obtain rfl:FG pu nu cu=y:=by simpa using hy
   exact hc
 have YY:∀(b:Nat) (cs:Array zY) (t:TypeId) (z:Nat × Nat),w.1[b]?=Vv (Sx cs t z)->t≠92->w'.1[b]?=w.1[b]?:=fun b cs t z hb ht=>by
  refine hg.block b (aq hb) fun e=>?_;rcases h1.2 with⟨rfl,_⟩|⟨g',cap,aa,rfl,_,a5,_⟩
  ·cases e
  have:g'=b:=by simpa[Value.ownBlock]using e.symm
  subst this;rw[hb]at a5;injection a5 with a5;injection a5 with _ e2;exact ht e2
 have CT:∀(y:zY) (m:RU),bM w B y m->bM w' B y m:=fun y m hy=>by
  refine hy.blk fun k e=>?_;rcases hy.2 with⟨rfl,_⟩|⟨g',cap,aa,rfl,_,a5,_⟩
  ·cases e
  have:g'=k:=by simpa[Value.ownBlock]using e
  subst this;exact YY _ _ _ _ a5 YR
 refine h v' w' ⟨vs++[FG pu nu cu],by rw[cD];exact a9,by rw[cD,cD,h2];rfl,fun i y m hy hm=>?_⟩ ((bj B w).grown hg hB (fun k hk=>(fh h1 k hk).1)) YY;by_cases hi:i<xs.length
 ·rw[Fo WQ]at hy hm;exact CT y m (h3 i y m hy hm)
 rw[Cp WQ]at hy hm;rw[h2]at hy
 match hj:i-xs.length,hy,hm with
 |0,hy,hm =>
  obtain rfl:FG pu nu cu=y:=by simpa using hy
  obtain rfl:l=m:=by simpa using hm
  exact CT _ _ hu
 |j+1,hy,hm=>simp at hm
structure kF(w:H7)(Bj Bd:Nat)(r:aY)(np jp:IH)(nc jc:Nat)(nl jl:QN)(d:az)(tp:IH)(tc:Nat):Prop where
 at':BC w Bj Bd r np jp nc jc nl jl d tp tc
 n:ck aF 1 (fun _=>True) w [FG np nl.length nc] nl
 j:ck aF 1 (fun _=>True) w [FG jp jl.length jc] jl
 t:ck aF 1 (fun _=>True) w [FG tp (Wq d.tags) tc] d.tags
def gI{V:jx α}(hV:Moves V){l:wy α}(h:ck V sz (fun _=>True) w vs l)(hb:Below w.1.size w w'):ck V sz (fun _=>True) w' vs l :=
 (ck.moves hV).mv ⟨hb.size,fun b h1 _=>⟨trivial,hb.block b h1⟩⟩ h
def kF.below{jc:Nat}(h:kF w Bj Bd r np jp nc jc nl jl d tp tc)(hb:Below w.1.size w w'):kF w' Bj Bd r np jp nc jc nl jl d tp tc :=
 ⟨⟨(hb.block _ (aq h.at'.j)).trans h.at'.j,(hb.block _ (aq h.at'.d)).trans h.at'.d⟩,gI aF.moves h.n hb,gI aF.moves h.j hb,gI aF.moves h.t hb⟩
def lH(near tags:QN)(r:aY)(d:az):Nat->Bool
 |0=>jV d
 |1=>jG r.tag d
 |2=>nN near r.Gg d
 |_=>vE near tags r.Gg d
def Ak:Nat->FuncId
 |0=>88
 |1=>89
 |2=>90
 |_=>91
def nI{jc:Nat}(h:kF w Bj Bd r np jp nc jc nl jl d tp tc)(zr:nl.length<=1000000)(vt:jl.length<=1000000)(nt:Wq d.tags<=1000000)(k:Nat):Calls prog (Ak k) #[Tk (Taq r nl.length np nc jl.length jp jc),Tk (u0 d tp tc)] w (iI (lH nl jl r d k) w):=by
 match k with
 |0=>exact AX r np jp nc jc nl jl d tp tc w
 |1=>exact zl r np jp nc jc nl jl d tp tc w h.t nt
 |2=>exact yM r np jp nc jc nl jl d tp tc w h.n zr
 |_+3=>exact ym r np jp nc jc nl jl d tp tc w h.n zr h.t nt h.j vt
def Tb8(h:gt:=by
 go_enter func93,ntmps93
 go_wp2_with(refine HC.o.mono ?_;rintro e w5 ⟨rfl,hb5⟩)
 go_ret;exact⟨rfl,hb5⟩):=h
def Dz{jc:Nat}(h:kF w Bj Bd r np jp nc jc nl jl d tp tc)(zr:nl.length<=1000000)(vt:jl.length<=1000000)(nt:Wq d.tags<=1000000):Calls prog 93 #[.func (.func 88) #[] #[],SL (Vv Bj),SL (Vv Bd)] w (iI (!jV d) w):=by
 have HC:Hid (Calls prog 88 #[Tk (Taq r nl.length np nc jl.length jp jc),Tk (u0 d tp tc)] w (iI (jV d) w)):=aa (nI h zr vt nt 0);have dL:=h.at'.dc;have d0:=se dL;have jL:=h.at'.jc;have j0:=xr jL;clear dL jL h;generalize jV d=c at *;exact Tb8
def Cv{jc:Nat}(h:kF w Bj Bd r np jp nc jc nl jl d tp tc)(zr:nl.length<=1000000)(vt:jl.length<=1000000)(nt:Wq d.tags<=1000000):Calls prog 93 #[.func (.func 89) #[] #[],SL (Vv Bj),SL (Vv Bd)] w (iI (!jG r.tag d) w):=by
 have HC:Hid (Calls prog 89 #[Tk (Taq r nl.length np nc jl.length jp jc),Tk (u0 d tp tc)] w (iI (jG r.tag d) w)):=aa (nI h zr vt nt 1);have dL:=h.at'.dc;have d0:=se dL;have jL:=h.at'.jc;have j0:=xr jL;clear dL jL h;generalize jG r.tag d=c at *;exact Tb8
def CB{jc:Nat}(h:kF w Bj Bd r np jp nc jc nl jl d tp tc)(zr:nl.length<=1000000)(vt:jl.length<=1000000)(nt:Wq d.tags<=1000000):Calls prog 93 #[.func (.func 90) #[] #[],SL (Vv Bj),SL (Vv Bd)] w (iI (!nN nl r.Gg d) w):=by
 have HC:Hid (Calls prog 90 #[Tk (Taq r nl.length np nc jl.length jp jc),Tk (u0 d tp tc)] w (iI (nN nl r.Gg d) w)):=aa (nI h zr vt nt 2);have dL:=h.at'.dc;have d0:=se dL;have jL:=h.at'.jc;have j0:=xr jL;clear dL jL h;generalize nN nl r.Gg d=c at *;exact Tb8
def Dm{jc:Nat}(h:kF w Bj Bd r np jp nc jc nl jl d tp tc)(zr:nl.length<=1000000)(vt:jl.length<=1000000)(nt:Wq d.tags<=1000000):Calls prog 93 #[.func (.func 91) #[] #[],SL (Vv Bj),SL (Vv Bd)] w (iI (!vE nl jl r.Gg d) w):=by
 have HC:Hid (Calls prog 91 #[Tk (Taq r nl.length np nc jl.length jp jc),Tk (u0 d tp tc)] w (iI (vE nl jl r.Gg d) w)):=aa (nI h zr vt nt 3);have dL:=h.at'.dc;have d0:=se dL;have jL:=h.at'.jc;have j0:=xr jL;clear dL jL h;generalize vE nl jl r.Gg d=c at *;exact Tb8
def EF{jc:Nat}(h:kF w Bj Bd r np jp nc jc nl jl d tp tc)(zr:nl.length<=1000000)(vt:jl.length<=1000000)(nt:Wq d.tags<=1000000)(k:Nat):Calls prog 93 #[.func (.func (Ak k)) #[] #[],SL (Vv Bj),SL (Vv Bd)] w (iI (!lH nl jl r d k) w):=by
 match k with
 |0=>exact Dz h zr vt nt
 |1=>exact Cv h zr vt nt
 |2=>exact CB h zr vt nt
 |_+3=>exact Dm h zr vt nt
def qd(w:H7)(b:Nat):Prop:=w.1[b]?=Vv (Sx #[.func (.func 88) #[] #[],.func (.func 89) #[] #[],.func (.func 90) #[] #[],.func (.func 91) #[] #[]] 152 (0,0))
def C9(h:qd w b)(k:Nat)(hk:k<4):w.cell? (b,k)=Vv (.func (.func (Ak k)) #[] #[]):=by
 have h:w.1[b]?=_:=h;rcases(show k=0\/k=1\/k=2\/k=3 by omega)with rfl|rfl|rfl|rfl<;>(simp only[AN,h];rfl)
def sH{jc:Nat}(h:kF w Bj Bd r np jp nc jc nl jl d tp tc)(a5:qd w b)(zr:nl.length<=1000000)(vt:jl.length<=1000000)(nt:Wq d.tags<=1000000):Calls prog 140 #[FG (Vv b) 4 4,.func (.func 93) #[] #[Bj,Bd]] w
   fun e w'=>(∃q:Int,e=S6 (Bm Sj q)/\V7 (0<=q)=!iD nl jl r d)/\Below w.1.size w w':=by
 have HH:=aa h;clear h;replace a5:=aa a5;have HU:Hid (iD nl jl r d=(lH nl jl r d 0&&(lH nl jl r d 1&&(lH nl jl r d 2&&lH nl jl r d 3)))):=aa lX;go_enter func140,ntmps140;go_wp2
 go_loopw[8,5] (fun i _ wr=>∃k:Nat,k<=4/\i=Bm Sj k/\Below w.1.size w wr/\∀j,j<k->lH nl jl r d j=VR) (fun i _ _=>4-(intOf i).toNat)
 exact⟨0,cg _,rfl,bj _ _,fun j hj=>absurd hj WQ⟩;obtain⟨k,hk,rfl,hB,hall⟩:=hrel;replace hall:=aa hall;replace hB:=aa hB;by_cases hlt:k<4
 ·have q0:=(Sc hB.o (aq a5.o)).trans (C9 a5.o k hlt);have HA:=aa (EF (HH.o.below hB.o) zr vt nt k);have a7:Hid (lH nl jl r d k=VN->iD nl jl r d=VN):=aa fun hf=>by
   rw[HU.o];rcases(show k=0\/k=1\/k=2\/k=3 by omega)with rfl|rfl|rfl|rfl<;>rw[hf]<;>simp
  generalize Ak k=F at *;cases hc:lH nl jl r d k with
  |false =>
   rw[hc]at HA;have HR:=aa (a7.o hc);clear hc;go_wp2_with(refine HA.o.mono ?_;rintro e w5 ⟨rfl,hb5⟩)
   go_ret;exact⟨⟨k,rfl,by rw[HR.o];simp⟩,hB.o.trans (hb5.mono hB.o.size)⟩
  |true =>
   rw[hc]at HA;have HR:Hid (∀j,j<k+1->lH nl jl r d j=VR):=aa fun j hj=>by
    by_cases e:j=k
    ·rw[e];exact hc
    exact hall.o j WQ
   clear hc;go_wp2_with(refine HA.o.mono ?_;rintro e w5 ⟨rfl,hb5⟩)
   have eK:=YS hB hb5;go_roundw;exact⟨k+1,WQ,Zf,eK.o,HR.o⟩;exact Ti
 obtain rfl:k=4:=by omega
 have HR:Hid (iD nl jl r d=VR):=aa (by rw[HU.o,hall.o 0 WQ,hall.o 1 WQ,hall.o 2 WQ,hall.o 3 WQ];rfl);go_wp2;go_ret;exact⟨⟨-1,rfl,Tdm⟩,hB.o⟩
def oD{jc:Nat}(h:kF w Bj Bd r np jp nc jc nl jl d tp tc)(a5:qd w b)(zr:nl.length<=1000000)(vt:jl.length<=1000000)(nt:Wq d.tags<=1000000):Calls prog 92 #[FG (Vv b) 4 4,.func (.func 93) #[] #[Bj,Bd]] w (iI (!iD nl jl r d) w):=by
 go_enter func92,ntmps92
 go_wp2_with fail;refine(sH h a5 zr vt nt).mono ?_;rintro e w2 ⟨⟨q,rfl,hr2⟩,hb2⟩;exact Tc2
def AP(nm:H6)(e:H6 × Int){r:H5}(h:x[k]?=Vv r):su nm e (x.take (k+1))=su nm e (x.take k)++if e.1=nm/\r.1<=e.2/\e.2<r.1+r.2 then [(e.2,r.1+r.2-e.2)] else []:=by
 rw[take_snoc' x k r h];unfold su;rw[E0];congr 1
 by_cases c:e.1=nm/\r.1<=e.2/\e.2<r.1+r.2
 ·rw[aw c];simp[c]
 rw[bh c];rw[List.filterMap_cons,bh c];rfl
def BD(nm:H6)(x:RU){E:wy (H6 × Int)}(h:E[k]?=Vv e):mQ (E.take (k+1)) nm x=mQ (E.take k) nm x++su nm e x:=by
 rw[take_snoc' E k e h];simp[mQ]
def TbW(h:gt:=by
 go_wp2;go_roundw;exact⟨j+1,WQ,Zf,by rw[fl.o];exact HOW4.o,ar2.o,eI.o⟩;exact Ti):=h
def yI{ok:LN}(g:af)(a:iX)(vol dn:H6)(x:RU)(v3:zY)(w:H7)(hr:ck aN 6 ok w [FG a.vp (Wq g.F9) a.vc] g.F9)(hz:JT g)(ht:qx g.F9)(CH:∀v∈g.F9,∀s∈v.Gf,fP s->∀a∈s.Ga,0<=a.start/\a.start<=1000000)
  (hx:xo w v3 x) (qu:∀p∈x,0<=p.1/\1<=p.2/\p.1+p.2<=1073741824) (vh:x.length<=30000) (Vh:(jE g vol).length<=10):Calls prog 95 #[Tk (Zg g a),By vol,By dn,v3] w (zz w (Mem (mQ (jE g vol) dn x)) 300000):=by
 replace hr:=aa hr;have aF:=aa hx;obtain⟨p3,c3,rfl,aG,aH,hx3⟩:=hx;replace hx3:=aa hx3;replace qu:=aa qu;have ua:=aa (ae w (Sx (Zg g a) 31));have CN:=aa (b9 w (Sx (Zg g a) 31));have gL:=cr CN.o;go_enter func95,ntmps95
 go_upto_region 2 with(fail);generalize RE:AI w _=W1 at *;have g0:=xr gL;clear gL RE;have Sv:=aa (Cr (ok:=ok) g a vol W1 ((ck.moves aN.moves).mv (Mv.of ua.o) hr.o) hz ht CH);clear hz ht CH;go_wp2_with fail;clear g0;refine Sv.o.mono ?_;clear Sv;rintro e w2 ⟨ev,rfl,ah,hb2⟩;have cm:=YS ua hb2;have kf:ck aQ 3 (fun _=>True) w2 [ev] ((jE g vol).map fun x=>⟨VN,x.1,x.2⟩):=bF.rd aQ.moves ah YR (fun _ _ _=>trivial) (fun _ _=>trivial);clear ah hb2;generalize hE:jE g vol=E at *;replace hE:=aa hE;obtain⟨ep,ec,rfl,WH,aI⟩:=kf.cap;replace kf:=aa kf;rw[fW]at WH ⊢;have au:=cm.o.size;have av:Hid (0<x.length->∃b off,p3=Vv ⟨b,off,VX⟩/\b<w2.1.size/\ru w2 b off x):=aa fun h=>by
  obtain⟨b,off,e,hb,hc⟩:=hx3.o h;exact⟨b,off,e,WQ,hc.below cm.o hb⟩
 have aJ:x.length<=9223372036854775807:=by omega
 go_upto_region 3 with(fail);go_loopw[10,19] (fun lv i wr=>∃k:Nat,k<=E.length/\i=Bm Sj k/\bM wr w2.1.size lv (mQ (E.take k) dn x)/\Below w2.1.size w2 wr) (fun _ i _=>E.length-(intOf i).toNat)
 exact⟨0,cg _,rfl,bM.nil _ _,bj _ _⟩;obtain⟨k,hk,rfl,a5,hB⟩:=hrel;have HOW:=aa a5;clear a5;have HB:=aa hB;clear hB;have hbl:(mQ (E.take k) dn x).length<=300000:=by
  have h1:=Dj (E.take k) dn x;have h2:(E.take k).length*x.length<=10*30000:=ue (by rw[ey];omega) vh;omega
 by_cases hlt:k<E.length
 ·obtain⟨e,he⟩:=aj E k hlt;obtain⟨b,off,us,rfl,gR,cX,ez,eE,ai⟩:=kf.o.elem (k:=k) (x:=(⟨VN,e.1,e.2⟩:aR)) (by rw[rI,he];rfl);obtain rfl:us=_:=eE;have cT:wr.1[b]?=w2.1[b]?:=HB.o.block b cX;obtain⟨q0,q1,q2⟩:=Mn cT ai;dsimp only at q1 q2;have TK:=aa (BD dn x he);have mA:=HB.o.size;clear he ai ez cT;have hA:=ae wr (Sx (Tat e.1 e.2) 53);have yb:=aa (b9 wr (Sx (Tat e.1 e.2) 53));have cJ:=aa (HB.o.trans (hA.mono mA));have a7:=aa (HOW.o.below hA);clear hA;go_upto_region 6 with(fail);clear q0 q1 q2;generalize ay:AI wr _=W3 at *;generalize aK:wr.1.size=Ba at *;clear ay HB HOW;generalize ak:mQ (E.take k) dn x=L0 at *;replace ak:=aa ak;go_loopw[10,25] (fun lv i wi=>∃j:Nat,j<=x.length/\i=Bm Sj j/\bM wi w2.1.size lv (L0++su dn e (x.take j))/\wi.1[Ba]?=Vv (Sx (Tat e.1 e.2) 53 (0,0))/\Below w2.1.size w2 wi) (fun _ i _=>x.length-(intOf i).toNat)
  exact⟨0,cg _,rfl,by rw[iv,show su dn e []=[] from lX,eM];exact a7.o,yb.o,cJ.o⟩;clear yb cJ a7;obtain⟨j,hj,rfl,a5,Sr,hB⟩:=hrel;have HOW:=aa a5;clear a5;have HB:=aa hB;clear hB;have yb:=aa Sr;clear Sr;have Sw:=HB.o.size;have Qu:=wT dn e (x.take j);rw[ey]at Qu;by_cases hlt2:j<x.length
  ·obtain⟨r,hr⟩:=aj x j hlt2;obtain⟨b4,az,aA,aB,am⟩:=av.o WQ;subst aA;have hc:=am.below HB.o aB j r hr;have x0:=hc.1;have x1:=hc.2;have fl:=aa (AP dn e hr);have sB:=qu.o r (ct hr);obtain⟨hr1,hr2,aL⟩:=sB;clear hc am hr;have WI:=aq yb.o;have hA:=ae wr (Sx #[Bm Sj r.1,Bm Sj r.2] 49);have YZ:=aa (b9 wr (Sx #[Bm Sj r.1,Bm Sj r.2] 49));have eI:=aa (HB.o.trans (hA.mono Sw));have HOW4:=aa (HOW.o.below hA);have ar2:=aa ((hA.block _ WI).trans yb.o);clear hA;go_upto_region 8 with(fail);clear x0 x1;generalize aC:AI wr _=W5 at *;generalize Rz:wr.1.size=Br at *;clear aC HB HOW yb;have a1:=cr ar2.o 1 _ lX;have a2:=cr ar2.o 2 _ lX;have r0:=cr YZ.o 0 _ lX;have r1:=cr YZ.o 1 _ lX;have aM:IntKind.i64.wrap (r.1+r.2)=r.1+r.2:=dy _ WQ;by_cases hen:e.1=dn
   ·have aE:(e.1.toList==dn.toList)=VR:=by rw[hen];simp
    have Sv:=aa hen;clear hen;by_cases h1:r.1<=e.2
    ·by_cases h2:e.2<r.1+r.2
     ·rw[aw ⟨Sv.o,h1,h2⟩]at fl;have TL:IntKind.i64.wrap (r.1+r.2-e.2)=r.1+r.2-e.2:=dy _ WQ;have WJ:=eI.o.size;go_wp2_with(at_builtin;refine jg lX lX w2.1.size (L0++su dn e (x.take j)) (e.2,r.1+r.2-e.2) lX ?c1 W5.1.size 1 lX ?c2 ?c3 ?c4 ?c5 ?_)
      case c1=>exact HOW4.o.below (ae _ _)
      all_goals first|(case c2=>exact aD lX rfl)|(case c3=>exact aD lX rfl)|(case c4=>rw[cD];omega)|(case c5=>simp;omega)|skip
      intro v' w6 Of a8 ao;have hA:=ae W5 (Sx #[Bm Sj e.2,Bm Sj (r.1+r.2-e.2)] 49);have a9:=(hA.block _ (aq ar2.o)).trans ar2.o;have Tq:=aa ((eI.o.trans (hA.mono WJ)).trans a8);have WK:=aa ((ao.block Ba (aq a9) (fun e=>(HOW4.o.below hA).ne a9 YR e.symm)).trans a9);replace Of:=aa Of;clear hA a9 a8 ao a1 a2 r0 r1;go_wp2;go_roundw;exact⟨j+1,WQ,Zf,by rw[fl.o];first|exact Of.o|(rw[<- cV];exact Of.o),WK.o,Tq.o⟩;exact Ti
     rw[bh (fun c=>h2 c.2.2),eM]at fl;exact TbW
    rw[bh (fun c=>h1 c.2.1),eM]at fl;exact TbW
   have aE:=jI hen;rw[bh (fun c=>hen c.1),eM]at fl;have Sv:=aa hen;clear hen;exact TbW
  obtain rfl:j=x.length:=by omega
  rw[cI]at HOW;have WL:Hid (bM wr w2.1.size _ (mQ (E.take (k+1)) dn x)):=aa (by rw[TK.o];exact HOW.o);clear HOW;go_wp2;go_roundw;exact⟨k+1,WQ,Zf,WL.o,HB.o⟩;exact Ti
 obtain rfl:k=E.length:=by omega
 rw[cI]at HOW hbl;have HV:=aa (xS (ends:=E) (nm:=dn) qu.o);have HN:=aa (tJ (mQ E dn x) _ wr HOW.o.rd HV.o WQ);have fy:Hid (Below w.1.size w wr):=aa (cm.o.trans (HB.o.mono au));clear HOW;go_wp2_with fail;refine HN.o.mono ?_;rintro e' w7 ⟨v7,x7,rfl,ab,ag,aO,rn⟩;replace ab:=aa ab;replace ag:=aa ag;have Vk:=YS fy rn;have Zu:=aa fy.o.size;clear rn;go_wp2;go_ret2;exact⟨v7,x7,rfl,ab.o.mono Zu.o,ag.o,WQ,Vk.o⟩
def Pn(ok F:LN)(Qj:FuncId)(Nd:RH)(F9:wy ay)(I:wy (ay × aB)->H7->Prop)(w:H7):Prop :=
 ∀(pre:wy (ay × aB)) (v:ay) (s:aB) (post:wy (ay × aB)),aA F9=pre++(v,s) :: post->∀(W:H7) (u1 u2:RH),cR F w W->I pre W->aN ok W u1 v->bC ok W u2 s ->
  Calls prog Qj (Value.agg u1.toArray :: Value.agg u2.toArray :: Nd).toArray W fun e W'=>e=S6 (Bm Sj 0)/\cR F W W'/\I (pre++[(v,s)]) W'
def Jc{ok F:LN}(Qj:FuncId)(Nd:RH)(a9:∀(l:Array zY) (W:H7),Sem.run prog (callFunc Qj l) W=.ok (.enter Qj l) W)(g:af)(a:iX)(bc:Nat)(I:wy (ay × aB)->H7->Prop)(w:H7)(kB:gY w bc g a)(hg:dN ok w g a)(hz:JT g)
  (hF:∀k,F k->k<w.1.size/\¬ok k) (hI:∀pre W W',I pre W->Below W.1.size W W'->I pre W') (h0:I [] w) (hC:Pn ok F Qj Nd g.F9 I w):Calls prog 69 #[SL (Vv bc),.func (.func Qj) #[] Nd.toArray] w fun e w'=>e=S6 (Vj #[By ⟨#[]⟩,Bm Sj 0])/\cR F w w'/\I (aA g.F9) w':=by
 have jt:=kB.lt;replace a9:=aa a9;obtain⟨sm,ga,_⟩:=kB;have nw:Hid (bX w bc sm g a):=aa ga;clear ga;obtain⟨g0,g1,g2,g3,g4,g5,g6,g7,g8⟩:=bX.cells nw.o;have HG:=aa hg.F9;have HZ:=aa hz;have mb:=hz.vl;obtain⟨vp,vc,sT,aE,aF⟩:=hg.F9.cap;replace hF:=aa hF;replace hI:=aa hI;replace hC:=aa hC;replace h0:=aa h0;clear hg hz;injection sT with e1 e2 e3;obtain⟨ID,aG,aH,G3,G4,Ge,Hb,Hc⟩:=a;dsimp only at e1 e2 e3 g0 g1 g2 g3 g4 g5 g6 g7 g8;subst e1;subst e3;clear e2;go_enter func69,ntmps69;go_wp2;clear g0 g1 g2 g3 g4 g5 g6 g7 g8
 go_loopw[17] (fun i wr=>∃k:Nat,k<=Wq g.F9/\i=Bm Sj k/\cR F w wr/\I (aA (g.F9.take k)) wr) (fun i _=>Wq g.F9-(intOf i).toNat)
 exact⟨0,cg _,rfl,cR.refl _ _,h0.o⟩;clear h0;obtain⟨k,hk,rfl,hm,hi⟩:=hrel;have HM:=aa hm;clear hm;have HI:=aa hi;clear hi;by_cases hlt:k<Wq g.F9
 ·obtain⟨v,hv⟩:=aj g.F9 k hlt;obtain⟨b,off,us,rfl,gR,cX,ez,eE,ag⟩:=HG.o.elem hv;have My:=aa eE;have ah:=HZ.o.vz v (ct hv);have GF:=ah.Gf;obtain⟨tv,sv,rfl,ew,gA⟩:=eE;obtain⟨tp,tc,rfl,_,_⟩:=ew.cap;obtain⟨sp,sc,rfl,ak,am⟩:=gA.cap;have cT:wr.1[b]?=w.1[b]?:=HM.o.block b cX (fun f=>(hF.o b f).2 gR);obtain⟨q0,q1,q2,q3,q4,q5⟩:=sw6 cT ag;replace hv:=aa hv;replace gA:=aa gA;clear ag ez cT ew ah;have zv:=aa (b9 wr (Sx (ZM v tp tc sp sc) 46));have hA:=ae wr (Sx (ZM v tp tc sp sc) 46);have ai:=aa (HM.o.trans (cR.of_below (F:=fun _=>False) hA) (fun _ f=>f.elim));have Qh:=aa (hI.o _ _ _ HI.o hA);have mA:=HM.o.size;have VD:=aa (aq zv.o);clear hA;go_wp2;clear q0 q1 q2 q3 q4 q5;generalize RE:AI wr _=W1 at *;generalize ao:wr.1.size=Bv at *;clear RE ao HI HM;go_loopw[24] (fun i wi=>∃j:Nat,j<=Wq v.Gf/\i=Bm Sj j/\cR F w wi/\I (bW g.F9 k j v) wi/\wi.1[Bv]?=Vv (Sx (ZM v tp tc sp sc) 46 (0,0))) (fun i _=>Wq v.Gf-(intOf i).toNat)
  exact⟨0,cg _,rfl,ai.o,by rw[eQ];exact Qh.o,zv.o⟩;clear ai Qh zv VD;obtain⟨j,hj,rfl,hm,hi,vA⟩:=hrel;have HM:=aa hm;clear hm;have HI:=aa hi;clear hi;have zv:=aa vA;clear vA;by_cases hlt2:j<Wq v.Gf
  ·obtain⟨s,hs⟩:=aj v.Gf j hlt2;obtain⟨b2,off2,aI,yp,I0,C2,B5,C3,a7⟩:=gA.o.elem hs;subst yp;have au:=aa C3;obtain⟨av,Rn,rfl,o0,hst⟩:=C3;obtain⟨ap,ac,rfl,_,_⟩:=o0.cap;obtain⟨eN,eR,rfl,_,_⟩:=hst.cap;have AD:wr.1[b2]?=w.1[b2]?:=HM.o.block b2 C2 (fun f=>(hF.o b2 f).2 I0);obtain⟨q0,q1,q2,q3,q4,q5,q6,q7,q8,q9,aw⟩:=ak5 AD a7;replace hs:=aa hs;have vL:=cr zv.o;have v0:=sv6 vL;have hA:=ae wr (Sx (ZN s ap ac eN eR) 55);have a8:=aa (HM.o.trans (cR.of_below (F:=fun _=>False) hA) (fun _ f=>f.elim));have Qi:=aa (hI.o _ _ _ HI.o hA);have az:=aq zv.o;have cm:=aa ((hA.block _ az).trans zv.o);clear a7 B5 AD o0 hst vL hA;go_wp2_with fail;clear q0 q1 q2 q3 q4 q5 q6 q7 q8 q9 aw v0;generalize aC:AI wr _=W2 at *;clear aC;have N5:=hC.o (bW g.F9 k j v) v s (fV g.F9 k (j+1) v) (jB g.F9 k j v s hv.o hs.o) W2 _ _ a8.o Qi.o (aN.moves.mv (Mv.mod a8.o (fun b f=>(hF.o b f).2)) My.o) (bC.moves.mv (Mv.mod a8.o (fun b f=>(hF.o b f).2)) au.o);rw[a9.o];refine N5.mono ?_;clear N5;rintro e w3 ⟨rfl,ab,a5⟩;replace a5:=aa a5;have Rp:=aa (a8.o.trans ab (fun k f=>.inl f));have cJ:Hid (w3.1[Bv]?=_):=aa ((ab.block _ (aq cm.o) (fun f=>by have:=(hF.o Bv f).1;omega)).trans cm.o);have VE:Hid (I (bW g.F9 k (j+1) v) w3):=aa (by rw[fG g.F9 k j v s hs.o];exact a5.o);have n0:=cr cJ.o 0 _ lX;clear ab a5 a8 Qi cm HI;go_wp2;go_roundw;exact⟨j+1,WQ,Zf,Rp.o,VE.o,cJ.o⟩;exact Ti
  obtain rfl:j=Wq v.Gf:=by omega
  have a5:Hid (I (aA (g.F9.take (k+1))) wr):=aa (by rw[<- fJ g.F9 k v hv.o];exact HI.o);clear HI;go_wp2;go_roundw;exact⟨k+1,WQ,Zf,HM.o,a5.o⟩;exact Ti
 obtain rfl:k=Wq g.F9:=by omega
 have aD:Hid (I (aA g.F9) wr):=aa (by have:=HI.o;rwa[cI]at this);go_wp2;go_ret2;exact⟨rfl,HM.o,aD.o⟩
def Tb9(h:gt:=by
 have:=b9 (w.alloc (Sx (ZM v tp tc sp sc) 46)) (Sx (ZN s ap ac eN eR) 55);rw[cW]at this;exact this):=h
def Tbi(h:gt:=by
 (refine aU Yp Yp ?_;(repeat(go_big_quiet_step ((go_at_call 78;exact iH (HLE.o _ _)))));(with_reducible refine fR ?_);intro wq ia;have kq:=dY ia;clear ia)
 have fy:=YS cm kq;clear kq el0 es1 es3 eq1;have hsb:=ox.o;generalize (dO g r.on==s.length)=x at *;subst hsb;go_wp2;go_ret;exact⟨rfl,fy.o⟩):=h
theorem NK{ok:LN}(g:af)(a:iX)(bc Bc Bl:Nat)(v:ay)(s:aB)(u1 u2:RH)(w:H7)(kB:gY w bc g a)(aC:w.cell? Bc=Vv (SL (Vv bc)))(Hh:Bc<w.1.size)
  (hll:w.cell? Bl=Vv (.func (.func 78) #[] #[Bc])) (hbl:Bl<w.1.size) (hg:dN ok w g a) (hz:JT g) (ai:Cu g) (hx:1<=g.Gd/\g.Gd<=1024)
  (hv:aN ok w u1 v) (hs:bC ok w u2 s) (hf:Ah s) (hsb:CX g s=VR):Calls prog 80 #[Tk u1.toArray,Tk u2.toArray,SL (Vv Bl),SL (Vv Bc)] w fun e w'=>e=S6 (Bm Sj 0)/\Below w.1.size w w':=by
 have jt:=kB.lt;obtain⟨tv,sv,rfl,ew,gA⟩:=hv;obtain⟨tp,tc,rfl,_,_⟩:=ew.cap;obtain⟨sp,sc,rfl,_,_⟩:=gA.cap;obtain⟨av,Rn,rfl,o0,hst⟩:=hs;obtain⟨ap,ac,rfl,aS,aV⟩:=o0.cap;obtain⟨eN,eR,rfl,aD,aE⟩:=hst.cap;replace o0:=aa o0;clear ew gA hst;have I3:=aa kB;obtain⟨sm,ga,_⟩:=kB;have nw:Hid (bX w bc sm g a):=aa ga;clear ga;replace hg:=aa hg;have HZ:=aa hz;clear hz;have ak:=aa hf;have hl0:=hf.fm.l0;have hl1:=hf.fm.l1;have aW:=hf.fm.ar;clear hf;replace ai:=aa ai;replace hx:=aa hx;have am:=aa aC;have HLL:=aa hll;have hb2:=(ae w (Sx (ZM v tp tc sp sc) 46)).trans ((ae (w.alloc (Sx (ZM v tp tc sp sc) 46)) (Sx (ZN s ap ac eN eR) 55)).mono (ae w _).size);have h1:((w.alloc (Sx (ZM v tp tc sp sc) 46)).alloc (Sx (ZN s ap ac eN eR) 55)).1[w.1.size+1]?=Vv (Sx (ZN s ap ac eN eR) 55 (0,0)):=by
  exact Tb9
 have cm:=aa hb2;clear hb2;have H1:=aa h1;clear h1;have LI:∀wr:H7,wr.1[w.1.size+1]?=Vv (Sx (ZN s ap ac eN eR) 55 (0,0))->∀(j:Nat) (z:zY),[Bm Sj s.start,Bm Sj s.length,Bm Sj s.kind,FG ap (Wq s.Ga) ac,Bm Sj s.chunk,FG eN (Wq s.stale) eR,By s.log,By s.pool,Bm Sj s.device,Bm Sj s.mode,Bm Sj s.done][j]?=Vv z->wr.cell? ⟨w.1.size+1,j,VX⟩=Vv z:=fun wr h j z hz=>by
  exact TcK
 replace LI:=aa LI;have Ys:∀(wr:H7) (nm:H6),Below w.1.size w wr->Calls prog 78 #[By nm,SL (Vv Bc)] wr fun e w'=>e=S6 (Bm Sj (dO g nm))/\Below wr.1.size wr w':=fun wr nm hB =>
  yC (ok:=ok) g a bc Bc nm wr (I3.o.below hB) ((hB.cell Hh).trans am.o) (hg.o.mv (Mv.of hB)) HZ.o
 replace Ys:=aa Ys;clear aC hll;have ox:Hid (_=VR):=aa ((CX.eq_1 g s).symm.trans hsb);clear hsb;go_enter func80,ntmps80
 go_upto_region 2 with(fail);generalize aF:AI (AI w _) _=W2 at *;clear aF;have s2:=LI.o W2 H1.o 2 _ lX;by_cases h3:s.kind=3
 ·have aH:(s.kind==3)=VR:=by simpa using h3
  rw[aw h3]at ox;have hn:=ak.o.c3 h3;clear h3;have a8:=aa (Bool.and_eq_true_iff.1 ox.o);clear ox;have hn1:=hn.1;have hn2:=hn.2;clear hn;have s3:=LI.o W2 H1.o 3 _ lX;go_upto_region 5 with(fail);clear s2 s3;go_loopw[20,7] (fun i x wr=>∃k:Nat,k<=Wq s.Ga/\i=Bm Sj k/\x=Ft VR/\Below w.1.size w wr/\wr.1[w.1.size+1]?=Vv (Sx (ZN s ap ac eN eR) 55 (0,0))) (fun i _ _=>Wq s.Ga-(intOf i).toNat)
  exact⟨0,cg _,rfl,rfl,cm.o,H1.o⟩;clear cm H1;obtain⟨k,hk,rfl,rfl,hB,a9⟩:=hrel;have H1:=aa a9;clear a9;by_cases hlt:k<Wq s.Ga
  ·obtain⟨r,hr⟩:=aj s.Ga k hlt;obtain⟨b,off,us,rfl,_,cX,TE,Tv,a5⟩:=o0.o.elem hr;obtain rfl:us=_:=Tv;have cT:wr.1[b]?=w.1[b]?:=hB.block b cX;have q0:=(cd (a:=⟨b,off+k*3,VX⟩) cT).trans (a5 0 _ lX);have q1:=(cd (a:=⟨b,off+k*3+1,VX⟩) cT).trans (a5 1 _ lX);have q2:=(cd (a:=⟨b,off+k*3+2,VX⟩) cT).trans (a5 2 _ lX);have VB:=aa (An.1 a8.o.1 r (ct hr));clear a5 TE cT hr;have hA:=ae wr (Sx (Taw r) 53);have pL:=aa (b9 wr (Sx (Taw r) 53));have cU:=aa (hB.trans (hA.mono hB.size));have ab:=Zl hA H1;clear hA;go_upto_region 7 with(fail);generalize ao:AI wr _=W3 at *;generalize aq:wr.1.size=Ba at *;clear ao aq hB q0 q1 q2 H1;have a1:=cr pL.o 1 _ lX;have s1:=cr ab.o 1 _ lX;have l0:=(cU.o.cell (p:=Bl) hbl).trans HLL.o;have el0:=aG (cP W3 _ l0) l0;have es1:=aG (cP W3 _ s1) s1;have VI:=aG (cP W3 _ a1) a1;have HLE:Hid (∀(p:fo) nm,Calls prog 78 #[By nm,SL (Vv Bc)] (ext W3 p) fun e w'=>e=S6 (Bm Sj (dO g nm))/\Below (ext W3 p).1.size (ext W3 p) w'):=aa fun p nm=>Ys.o _ nm (mn cU.o (dQ W3 p))
   (refine aU Yp Yp ?_;(repeat(go_big_quiet_step ((go_at_call 78;exact iH (HLE.o _ _)))));(with_reducible refine fR ?_);intro wq ia;have kq:=dY ia;clear ia)
   have fy:=YS cU kq;have ag:=Zl kq ab;clear kq el0 es1 VI a1 s1 l0;go_wp2;go_roundw;exact⟨k+1,WQ,Zf,by rw[show(dO g r.on==s.length)=VR from VB.o],fy.o,ag.o⟩;exact Ti
  obtain rfl:k=Wq s.Ga:=by omega
  have s1:=cr H1.o 1 _ lX;have s4:=cr H1.o 4 _ lX;have cB:=(hB.cell (p:=Bc) Hh).trans am.o;obtain⟨-,-,-,g3,-,-,-,-,-⟩:=bX.cells (sm:=sm) ((hB.block bc jt).trans nw.o);have es1:=aG (cP wr _ s1) s1;have aI:=aG (cP wr _ s4) s4;have Rs:=aG (cP wr _ cB) cB;have ah:=aG (cP wr _ g3) g3;have x1:=hx.o.1;have x2:=hx.o.2;have m0:0<=s.length*g.Gd:=oA WQ WQ;have m1:s.length*g.Gd<=32768*1024:=tW hl1 x2 WQ WQ;have w1:IntKind.i64.wrap (s.length*g.Gd)=s.length*g.Gd:=dy _ WQ;have r0:0<=BZ g s:=lz WQ WQ;have r1:BZ g s<=s.length*g.Gd+s.chunk-1:=mS _ WQ;have Yt:Hid (BZ g s=_):=aa (BZ.eq_1 g s);go_upto_region 9 with(fail);(refine aU Yp Yp ?_;(repeat(go_big_quiet_step ((go_at_call 81;exact iH (tN WQ WQ WQ WQ)))));(with_reducible refine fR ?_);intro wq ia;have kq:=dY ia;clear ia)
  have fy:=aa (hB.trans (kq.mono hB.size));have ag:=Zl kq H1;clear kq es1 aI Rs ah s1 s4 cB g3 w1;rw[<- Yt.o];generalize hR:BZ g s=R at *;replace hR:=aa hR;clear Yt;go_upto_region 10 with(fail);have s6:=cr ag.o 6 _ lX;by_cases hle:s.log.toList.isEmpty=VR
  ·go_quiet (fail)
   go_wp2;go_ret;exact⟨rfl,aT fy.o _⟩
  have au:s.log.toList.isEmpty=VN:=by simpa using hle
  have aJ:Hid (1+(R+64-1)/64<=dO g s.log*g.Gd):=aa (by
   have:=a8.o.2;unfold Fe at this;rw[hR.o]at this;simpa[au]using this)
  clear hle;have l0:=(fy.o.cell (p:=Bl) hbl).trans HLL.o;have cB:=(fy.o.cell (p:=Bc) Hh).trans am.o;obtain⟨-,-,-,g3,-,-,-,-,-⟩:=bX.cells (sm:=sm) ((fy.o.block bc jt).trans nw.o);have el0:=aG (cP wq _ l0) l0;have aK:=aG (cP wq _ s6) s6;have Rs:=aG (cP wq _ cB) cB;have ah:=aG (cP wq _ g3) g3;have lb:=ai.o s.log;have az:=lb.1;have aA:=lb.2;have HLE:Hid (∀(p:fo),Calls prog 78 #[By s.log,SL (Vv Bc)] (ext wq p) fun e w'=>e=S6 (Bm Sj (dO g s.log))/\Below (ext wq p).1.size (ext wq p) w'):=aa fun p=>Ys.o _ _ (mn fy.o (dQ wq p));generalize dO g s.log=L at *;have v0:0<=L*g.Gd:=oA az WQ;have v1:L*g.Gd<=10000000*1024:=tW aA x2 WQ WQ;have w1:IntKind.i64.wrap (L*g.Gd)=L*g.Gd:=dy _ WQ;have y0:0<=(R+64-1)/64:=lz WQ WQ;have y1:(R+64-1)/64<=R+64-1:=mS _ WQ;have w2:IntKind.i64.wrap (1+(R+64-1)/64)=1+(R+64-1)/64:=dy _ WQ
  (refine aU Yp Yp ?_;(repeat(go_big_quiet_step ((first|(go_at_call 81;exact iH (tN WQ WQ WQ WQ))|(go_at_call 78;exact iH (HLE.o _))))));(with_reducible refine fR ?_);intro wq ia;have kq:=dY ia;clear ia)
  have Fc:=YS fy kq;clear kq el0 aK Rs ah l0 cB g3 s6 w1 w2;have aX:=aJ.o;generalize 1+(R+64-1)/64=X at *;generalize L*g.Gd=Y at *;go_wp2;go_ret;exact⟨rfl,Fc.o⟩
 have aH:(s.kind==3)=VN:=by simpa using h3
 rw[bh h3]at ox;clear h3;by_cases h4:s.kind=4
 ·have aL:(s.kind==4)=VR:=by simpa using h4
  rw[aw h4]at ox;have hn:=ak.o.a4 h4;clear h4;obtain⟨r0,hr0⟩:=aj s.Ga 0 WQ;have ho:aOn s 0=r0.on:=by simp[aOn,hr0]
  rw[ho]at ox;have a8:=aa (Bool.and_eq_true_iff.1 ox.o);have Kp:Hid (s.length/((Wq s.Ga:Int)-1)*g.Gd+16<=dO g r0.on*g.Gd):=aa (by
   have:=a8.o.2;unfold ER at this;rw[ho]at this;exact of_decide_eq_true this)
  clear ox;obtain⟨b,off,us,rfl,_,cX,ez,eE,a7⟩:=o0.o.elem hr0;obtain rfl:us=_:=eE;have Z1:=aa (a7 1 _ lX);clear a7 ez hr0 ho;have s3:=LI.o W2 H1.o 3 _ lX;go_upto_region 13 with(fail);clear s2 s3;go_loopw[73,7] (fun i x wr=>∃k:Nat,k<=Wq s.Ga/\i=Bm Sj k/\x=Ft VR/\Below w.1.size w wr/\wr.1[w.1.size+1]?=Vv (Sx (ZN s (Vv ⟨b,off,VX⟩) ac eN eR) 55 (0,0))) (fun i _ _=>Wq s.Ga-(intOf i).toNat)
  exact⟨0,cg _,rfl,rfl,cm.o,H1.o⟩;clear cm H1;obtain⟨k,hk,rfl,rfl,hB,a9⟩:=hrel;have H1:=aa a9;clear a9;by_cases hlt:k<Wq s.Ga
  ·obtain⟨r,hr⟩:=aj s.Ga k hlt;obtain⟨b',aM,aO,e',_,aP,TE,Tv,a5⟩:=o0.o.elem hr;injection e' with e';injection e' with eb eo;subst eb;subst eo;obtain rfl:aO=_:=Tv;have cT:wr.1[b]?=w.1[b]?:=hB.block b cX;have q0:=(cd (a:=⟨b,off+k*3,VX⟩) cT).trans (a5 0 _ lX);have q1:=(cd (a:=⟨b,off+k*3+1,VX⟩) cT).trans (a5 1 _ lX);have q2:=(cd (a:=⟨b,off+k*3+2,VX⟩) cT).trans (a5 2 _ lX);have VB:=aa (An.1 a8.o.1 r (ct hr));clear a5 TE cT aP hr;have hA:=ae wr (Sx (Taw r) 53);have pL:=aa (b9 wr (Sx (Taw r) 53));have cU:=aa (hB.trans (hA.mono hB.size));have ab:=Zl hA H1;clear hA;go_upto_region 15 with(fail);generalize ao:AI wr _=W3 at *;generalize aq:wr.1.size=Ba at *;clear ao aq hB q0 q1 q2 H1;have a1:=cr pL.o 1 _ lX;have s3:=cr ab.o 3 _ lX;have l0:=(cU.o.cell (p:=Bl) hbl).trans HLL.o;have z1:=(Sc cU.o cX).trans Z1.o;have el0:=aG (cP W3 _ l0) l0;have es3:=aG (cP W3 _ s3) s3;have VI:=aG (cP W3 _ a1) a1;have VJ:=aG (cP W3 _ z1) z1;have HLE:Hid (∀(p:fo) nm,Calls prog 78 #[By nm,SL (Vv Bc)] (ext W3 p) fun e w'=>e=S6 (Bm Sj (dO g nm))/\Below (ext W3 p).1.size (ext W3 p) w'):=aa fun p nm=>Ys.o _ nm (mn cU.o (dQ W3 p))
   (refine aU Yp Yp ?_;(repeat(go_big_quiet_step ((go_at_call 78;exact iH (HLE.o _ _)))));(with_reducible refine fR ?_);intro wq ia;have kq:=dY ia;clear ia)
   have fy:=YS cU kq;have ag:=Zl kq ab;clear kq el0 es3 VI VJ a1 s3 l0 z1;go_wp2;go_roundw;exact⟨k+1,WQ,Zf,by rw[show(dO g r.on==dO g r0.on)=VR from VB.o],fy.o,ag.o⟩;exact Ti
  obtain rfl:k=Wq s.Ga:=by omega
  have s1:=cr H1.o 1 _ lX;have s3:=cr H1.o 3 _ lX;have l0:=(hB.cell (p:=Bl) hbl).trans HLL.o;have cB:=(hB.cell (p:=Bc) Hh).trans am.o;have z1:=(Sc hB cX).trans Z1.o;obtain⟨-,-,-,g3,-,-,-,-,-⟩:=bX.cells (sm:=sm) ((hB.block bc jt).trans nw.o);have el0:=aG (cP wr _ l0) l0;have es1:=aG (cP wr _ s1) s1;have es3:=aG (cP wr _ s3) s3;have Rs:=aG (cP wr _ cB) cB;have ah:=aG (cP wr _ g3) g3;have VJ:=aG (cP wr _ z1) z1;have HLE:Hid (∀(p:fo) nm,Calls prog 78 #[By nm,SL (Vv Bc)] (ext wr p) fun e w'=>e=S6 (Bm Sj (dO g nm))/\Below (ext wr p).1.size (ext wr p) w'):=aa fun p nm=>Ys.o _ nm (mn hB (dQ wr p));have lb:=ai.o r0.on;have az:=lb.1;have aA:=lb.2;have x1:=hx.o.1;have x2:=hx.o.2;generalize hL:dO g r0.on=L at *;have m0:0<=L*g.Gd:=oA az WQ;have m1:L*g.Gd<=10000000*1024:=tW aA x2 WQ WQ;have w1:IntKind.i64.wrap (L*g.Gd)=L*g.Gd:=dy _ WQ;have w2:IntKind.i64.wrap ((Wq s.Ga:Int)-1)=(Wq s.Ga:Int)-1:=dy _ WQ;have n0:(((Wq s.Ga:Int)-1)==0)=VN:=by simp;omega
  have d0:s.length.tdiv ((Wq s.Ga:Int)-1)=s.length/((Wq s.Ga:Int)-1):=CC WQ;have d1:0<=s.length/((Wq s.Ga:Int)-1):=lz WQ WQ;have d2:s.length/((Wq s.Ga:Int)-1)<=s.length:=mS _ WQ;generalize s.length/((Wq s.Ga:Int)-1)=D at *;have w3:IntKind.i64.wrap D=D:=dy _ WQ;have m2:0<=D*g.Gd:=oA d1 WQ;have m3:D*g.Gd<=32768*1024:=tW WQ x2 WQ WQ;have w4:IntKind.i64.wrap (D*g.Gd)=D*g.Gd:=dy _ WQ;have w5:IntKind.i64.wrap (D*g.Gd+16)=D*g.Gd+16:=dy _ WQ;have VK:Hid (∀(p:fo),Calls prog 78 #[By r0.on,SL (Vv Bc)] (ext wr p) fun e w'=>e=S6 (Bm Sj L)/\Below (ext wr p).1.size (ext wr p) w'):=aa fun p=>by rw[<- hL];exact HLE.o p _
  clear HLE;go_upto_region 17 with(fail);(refine aU Yp Yp ?_;(repeat(go_big_quiet_step ((go_at_call 78;exact iH (VK.o _)))));(with_reducible refine fR ?_);intro wq ia;have kq:=dY ia;clear ia)
  have fy:=aa (hB.trans (kq.mono hB.size));clear kq el0 es1 es3 Rs ah VJ s1 s3 l0 cB z1 g3 w1 w2 w3 w4 w5 d0 n0;have hpb:=Kp.o;generalize D*g.Gd=X at *;generalize L*g.Gd=Y at *;exact TcN
 have aL:(s.kind==4)=VN:=by simpa using h4
 rw[bh h4]at ox;clear h4;by_cases h5:s.kind=5
 ·have aQ:(s.kind==5)=VR:=by simpa using h5
  rw[aw h5]at ox;have hn:=ak.o.fm.p5 h5;obtain⟨r,hr⟩:=aj s.Ga 1 WQ;have ho:aOn s 1=r.on:=by simp[aOn,hr]
  rw[ho]at ox;obtain⟨b,off,us,rfl,_,cX,ez,eE,a7⟩:=o0.o.elem hr;obtain rfl:us=_:=eE;have q1:=(Sc cm.o cX).trans (a7 1 _ lX);have s1:=LI.o W2 H1.o 1 _ lX;have s3:=LI.o W2 H1.o 3 _ lX;have l0:=(cm.o.cell (p:=Bl) hbl).trans HLL.o;have el0:=aG (cP W2 _ l0) l0;have es1:=aG (cP W2 _ s1) s1;have es3:=aG (cP W2 _ s3) s3;have eq1:=aG (cP W2 _ q1) q1;have HLE:Hid (∀(p:fo) nm,Calls prog 78 #[By nm,SL (Vv Bc)] (ext W2 p) fun e w'=>e=S6 (Bm Sj (dO g nm))/\Below (ext W2 p).1.size (ext W2 p) w'):=aa fun p nm=>Ys.o _ nm (mn cm.o (dQ W2 p));clear a7 ez hr ho cX
  go_upto_region 19 with(fail);exact Tbi
 have aQ:(s.kind==5)=VN:=by simpa using h5
 rw[bh h5]at ox;clear h5;by_cases h7:s.kind=7
 ·have aR:(s.kind==7)=VR:=by simpa using h7
  rw[aw h7]at ox;have hn:=ak.o.fm.p7 h7;obtain⟨r,hr⟩:=aj s.Ga 0 WQ;have ho:aOn s 0=r.on:=by simp[aOn,hr]
  rw[ho]at ox;obtain⟨b,off,us,rfl,_,cX,ez,eE,a7⟩:=o0.o.elem hr;obtain rfl:us=_:=eE;have q1:=(Sc cm.o cX).trans (a7 1 _ lX);have s1:=LI.o W2 H1.o 1 _ lX;have s3:=LI.o W2 H1.o 3 _ lX;have l0:=(cm.o.cell (p:=Bl) hbl).trans HLL.o;have el0:=aG (cP W2 _ l0) l0;have es1:=aG (cP W2 _ s1) s1;have es3:=aG (cP W2 _ s3) s3;have eq1:=aG (cP W2 _ q1) q1;have HLE:Hid (∀(p:fo) nm,Calls prog 78 #[By nm,SL (Vv Bc)] (ext W2 p) fun e w'=>e=S6 (Bm Sj (dO g nm))/\Below (ext W2 p).1.size (ext W2 p) w'):=aa fun p nm=>Ys.o _ nm (mn cm.o (dQ W2 p));clear a7 ez hr ho cX
  go_upto_region 21 with(fail);exact Tbi
 have aR:(s.kind==7)=VN:=by simpa using h7
 rw[bh h7]at ox;clear h7;go_wp2;go_ret;exact⟨rfl,cm.o⟩
def OkM(w:H7)(e:Ending)(w':H7):Prop:=e=S6 (Vj #[By ⟨#[]⟩,Bm Sj 0])/\Below w.1.size w w'
def ME{ok:LN}(g:af)(a:iX)(bc:Nat)(w:H7)(kB:gY w bc g a)(hg:dN ok w g a)(hz:JT g)(hx:1<=g.Gd/\g.Gd<=1024)(TY:Ct g)(hsf:∀v∈g.F9,∀(k:Nat) (s:aB),v.Gf[k]?=Vv s->bJ g.Gd s (Cw (v.Gf.take k))=VR/\(1<Wq v.Gf->(oO s.kind).several=VR))(GF:∀v∈g.F9,∀s∈v.Gf,wM s):Calls prog 36 #[SL (Vv bc)] w (OkM w):=by
 replace hsf:=aa hsf;have WG:=aa GF;clear GF;have jt:=kB.lt;have I3:=aa kB;obtain⟨sm,ga,a5⟩:=kB;have nw:Hid (bX w bc sm g a):=aa ga;have VF:Hid (w.cell? (XM bc 9)=Vv (.map (Vv sm))):=aa (by simp[AN,ga]);replace a5:=aa a5;clear ga;obtain⟨g0,g1,g2,g3,g4,g5,g6,g7,g8⟩:=bX.cells nw.o;have HG:=aa hg.F9;have HZ:=aa hz;have HX:=aa hx;have au:=aa TY;have mb:=hz.vl;obtain⟨vp,vc,sT,aJ,aK⟩:=hg.F9.cap;clear hg hz hx TY;injection sT with e1 e2 e3;obtain⟨ID,aL,aM,G3,G4,Ge,Hb,Hc⟩:=a;dsimp only at e1 e2 e3 g0 g1 g2 g3 g4 g5 g6 g7 g8;subst e1;subst e3;clear e2;go_enter func36,ntmps36;go_wp2;clear g0 g1 g2 g3 g4 g5 g6 g7 g8
 go_loopw[15] (fun i wr=>∃k:Nat,k<=Wq g.F9/\i=Bm Sj k/\Below w.1.size w wr) (fun i _=>Wq g.F9-(intOf i).toNat)
 exact⟨0,cg _,rfl,bj _ _⟩;obtain⟨k,hk,rfl,hB⟩:=hrel;by_cases hlt:k<Wq g.F9
 ·obtain⟨v,hv⟩:=aj g.F9 k hlt;obtain⟨b,off,us,rfl,gR,cX,ez,eE,am⟩:=HG.o.elem hv;have Zr:=ct hv;have a8:=HZ.o.vz v Zr;have GF:=a8.Gf;have B6:=aa a8.seg;have aw:=aa (au.o v Zr);have Ux:=aa (hsf.o v Zr);have ay:=aa (I7 (l:=v.Gf) fun s hs=>⟨by have:=(WG.o v Zr s hs).l0;omega,(WG.o v Zr s hs).l1⟩);obtain⟨tv,sv,rfl,ew,gA⟩:=eE;obtain⟨tp,tc,rfl,_,_⟩:=ew.cap;obtain⟨sp,sc,rfl,az,aA⟩:=gA.cap;have cT:wr.1[b]?=w.1[b]?:=hB.block b cX;obtain⟨q0,q1,q2,q3,q4,q5⟩:=sw6 cT am;replace hv:=aa hv;replace gA:=aa gA;clear am ez cT ew a8 Zr;have zv:=aa (b9 wr (Sx (ZM v tp tc sp sc) 46));have cU:=aa (hB.trans ((ae wr (Sx (ZM v tp tc sp sc) 46)).mono hB.size));have mA:=hB.size;go_wp2;clear q0 q1 q2 q3 q4 q5;generalize RE:AI wr _=W1 at *;generalize aC:wr.1.size=Bv at *;clear RE aC hB;go_loopw[22,6] (fun i st wi=>∃j:Nat,j<=Wq v.Gf/\i=Bm Sj j/\st=Bm Sj (Cw (v.Gf.take j))/\Below w.1.size w wi/\wi.1[Bv]?=Vv (Sx (ZM v tp tc sp sc) 46 (0,0))) (fun i _ _=>Wq v.Gf-(intOf i).toNat)
  exact⟨0,cg _,rfl,rfl,cU.o,zv.o⟩;clear cU zv;obtain⟨j,hj,rfl,rfl,hB,vA⟩:=hrel;have htb:=ay.o j;have zv:=aa vA;clear vA;by_cases hlt2:j<Wq v.Gf
  ·obtain⟨s,hs⟩:=aj v.Gf j hlt2;have ao:=aa (GI hs);have a9:=Ux.o j s hs;have aD:=aa a9.1;have aE:=aa a9.2;clear a9;have ab:=WG.o v (ct hv.o) s (ct hs);have aN:=ab.l0;have aO:=ab.l1;clear ab;generalize Cw (v.Gf.take j)=t at *;obtain⟨b2,off2,aP,yp,I0,C2,B5,C3,a7⟩:=gA.o.elem hs;subst yp;have aF:=aa C3;have ag:=ct hs;have zc:=B6.o s ag;have ah:=zc.1;have ai:=zc.2;have Yq:=aa (aw.o s ag);obtain⟨av,Rn,rfl,o0,hst⟩:=C3;obtain⟨ap,ac,rfl,_,_⟩:=o0.cap;obtain⟨eN,eR,rfl,_,_⟩:=hst.cap;have AD:wr.1[b2]?=w.1[b2]?:=hB.block b2 C2;obtain⟨q0,q1,q2,q3,q4,q5,q6,q7,q8,q9,aG⟩:=ak5 AD a7;clear hs ag zc a7 B5 AD o0 hst;have lj:=aa (b9 wr (Sx (ZN s ap ac eN eR) 55));have hA:=ae wr (Sx (ZN s ap ac eN eR) 55);have cm:=aa (hB.trans (hA.mono hB.size));have J0:=Zl hA zv;clear hA;go_wp2_with fail;clear q0 q1 q2 q3 q4 q5 q6 q7 q8 q9 aG;generalize aH:AI wr _=W2 at *;generalize aI:wr.1.size=Bs at *;clear aH aI;refine(N8 (ok:=ok) g bc s t W2 (I3.o.below cm.o) (by have:=HX.o.1;omega) (by have:=HX.o.2;omega) (bC.moves.mv (Mv.of cm.o) aF.o) ah ai Yq.o aD.o).mono ?_;rintro e w3 ⟨rfl,hb3⟩;have cJ:=YS cm hb3;have pZ:=Zl hb3 J0;have nB:=Zl hb3 lj;clear hb3;have n0:=cr pZ.o 0 _ lX;have n5:=cr pZ.o 5 _ lX;have s1:=cr nB.o 1 _ lX;have s2:=cr nB.o 2 _ lX;have c9:=(Sc cJ.o jt).trans VF.o;by_cases h1:1<Wq v.Gf
   ·have aq:∀n,(Instr.lookup 96 (.map (Vv sm)) (Bm Sj s.kind) VN).run prog (w3.drewN n)=.ok (jR (oO s.kind)) (w3.drewN n):=fun n=>by
     have hm:bi prog 3 (w3.drewN n) sm 10 eH:=a5.o.block (cJ.o.block _ a5.o.lt);have:=(hm.look pF underlying96 (uG _) (lA underlying3 Yq.o)).1;rwa[uA]at this
    have Xi:=aa (aE.o h1);generalize hxs:oO s.kind=x at *;have ak:∀n,(Instr.lookup 96 (.map (Vv sm)) (Bm Sj s.kind) VN).run prog (w3.drewN n)=.ok (Tk (Tan x)) (w3.drewN n):=aq;clear aq hxs;have N4:=vw x;have hd1:V7 ((1:Int)<(Wq v.Gf:Int))=VR:=by simp;omega
    go_upto_region 10 with(fail);go_quiet (fail);clear ak N4;clear h1 hd1;cases hsv:x.several with
    |false=>exact absurd (hsv.symm.trans Xi.o) YR
    |true =>
     clear hsv;go_wp2;go_roundw;exact⟨j+1,WQ,Zf,by rw[ao.o],aT cJ.o _,pZ.o⟩;exact Ti
   have hd1:V7 ((1:Int)<(Wq v.Gf:Int))=VN:=by simp;omega
   go_upto_region 10 with(fail);go_quiet (fail);go_wp2;go_roundw
   exact⟨j+1,WQ,Zf,by rw[ao.o],aT cJ.o _,pZ.o⟩;exact Ti
  obtain rfl:j=Wq v.Gf:=by omega
  go_wp2;go_roundw;exact⟨k+1,WQ,Zf,hB⟩;exact Ti
 obtain rfl:k=Wq g.F9:=by omega
 go_wp2;go_ret2;exact⟨rfl,hB⟩
def Mm{ok:LN}(g:af)(a:iX)(bc:Nat)(s:aB){w:H7}(kB:gY w bc g a)(hg:dN ok w g a)(hz:JT g)(hv:bC ok w u s)(ha:Wq s.Ga<=1000000)(he:jw g s=VR):Calls prog 71 #[SL (Vv bc),Tk u.toArray] w fun e w'=>e=S6 (Ft VR)/\Below w.1.size w w':=by
 have jt:=kB.lt;have HV:=aa hv;obtain⟨av,Rn,rfl,o0,hst⟩:=hv;obtain⟨ap,ac,rfl,ao,au⟩:=o0.cap;obtain⟨eN,eR,rfl,ag,ah⟩:=hst.cap;replace o0:=aa o0;clear hst;obtain⟨sm,ga,TZ⟩:=kB;have nw:Hid (bX w bc sm g a):=aa ga;clear ga TZ;replace hg:=aa hg;replace hz:=aa hz;have cU:=aa (ae w (Sx (ZN s ap ac eN eR) 55));unfold jw at he;rw[eh]at he;replace he:=aa he;go_enter func71,ntmps71;go_wp2
 go_loopw[16] (fun i wr=>∃k:Nat,k<=Wq s.Ga/\i=Bm Sj k/\Below w.1.size w wr/\wr.1[w.1.size]?=Vv (Sx (ZN s ap ac eN eR) 55 (0,0))) (fun i _=>Wq s.Ga-(intOf i).toNat)
 exact⟨0,cg _,rfl,cU.o,b9 w _⟩;obtain⟨k,hk,rfl,hB,PX⟩:=hrel;replace PX:=aa PX;by_cases hlt:k<Wq s.Ga
 ·obtain⟨r,hr⟩:=aj s.Ga k hlt;obtain⟨b,off,us,rfl,_,cX,ez,eE,a5⟩:=o0.o.elem hr;obtain rfl:us=_:=eE;have cT:wr.1[b]?=w.1[b]?:=hB.block b cX;obtain⟨q0,q1,q2⟩:=Mn cT a5;replace hr:=aa hr;clear a5 ez cT;go_upto_region 4 with(fail);clear q0 q1 q2;have ox:=aa (b9 wr (Sx (Taw r) 53));have eK:=aa (hB.trans ((ae wr (Sx (Taw r) 53)).mono hB.size));have O2:=aa ((cj wr (Sx (Taw r) 53) _ (aq PX.o)).trans PX.o);have mA:=hB.size;generalize ai:AI wr _=W5 at *;generalize aw:wr.1.size=Bs at *;clear ai;refine sM (ok:=ok) W5 g a bc sm Bs r.on ((eK.o.block bc jt).trans nw.o) (by simp[AN,ox.o]) (aq ox.o) (hg.o.mv (Mv.of eK.o)) hz.o lX rfl (aa ?_) (fun _ _ _ _ _ h=>h);intro tp tc b7 W7 rn hbz _ _;have Vk:=YS eK rn;have Rk:=Zl rn O2;have a7:=(rn.block _ (aq ox.o)).trans ox.o;have v0:=cr a7 0 _ lX;clear rn hbz a7 ox eK O2;have hq:=An.1 he.o.1 r (ct hr.o);generalize N4:(bH g.Gb r.on).isSome=fd at *;generalize hrv:r.vol=rv at *;clear N4 hrv;cases rv
  all_goals
   simp only[nj,Bool.true_or]at hq
   try subst hq
   go_wp2;go_roundw;exact⟨k+1,WQ,Zf,Vk.o,Rk.o⟩;exact Ti
 have yL:=cr PX.o;have y0:=IC yL;have Vx:=aa hB;go_wp2_with fail;clear y0 yL;refine(kN (ok:=ok) s VR _ (bC.moves.mv (Mv.of Vx.o) HV.o) ha).mono ?_;rintro e w3 ⟨uv,rfl,a8,hb3⟩;have kf:=a8.rd (ok:=fun _=>True) (fun _ _=>trivial);obtain⟨up,uc,rfl,ay,az⟩:=kf.cap;replace kf:=aa kf;clear a8;have cJ:=YS Vx hb3;clear hb3;have ez:(dD s VR).length<=1000002:=oL s VR ha;have VB:=aa he.o.2;generalize hL:dD s VR=L at *;clear hL;go_wp2;go_loopw[41] (fun i wr=>∃k:Nat,k<=L.length/\i=Bm Sj k/\Below w3.1.size w3 wr) (fun i _=>L.length-(intOf i).toNat)
 exact⟨0,cg _,rfl,bj _ _⟩;obtain⟨k,hk,rfl,hB⟩:=hrel;by_cases hlt:k<L.length
 ·obtain⟨x,hx⟩:=aj L k hlt;obtain⟨b,off,us,rfl,_,cX,TE,eE,a5⟩:=kf.o.elem hx;obtain rfl:us=_:=eE;have q0:=(Sc hB cX).trans (a5 0 _ lX);rw[fp,fg]at q0;replace hx:=aa hx;have fy:=YS cJ hB;have g0:=bX.cells (sm:=sm) ((fy.o.block bc jt).trans nw.o);clear a5 TE;go_wp2_with fail;clear g0;refine(fA (ok:=ok) g a x _ (hg.o.mv (Mv.of fy.o)).F9 hz.o.vl hz.o.vz).mono ?_;rintro e w5 ⟨u5,rfl,⟨t5,s5,rfl,a9,ab⟩,hb5⟩;obtain⟨aA,aC,rfl,_,_⟩:=a9.cap;obtain⟨aD,aE,rfl,_,_⟩:=ab.cap;clear a9 ab;have am:Below w3.1.size w3 w5:=hB.trans (hb5.mono hB.size);have eK:=aa am;have hq:=An.1 VB.o x (ct hx.o);generalize N4:(aM g.F9 x).isSome=fd at *;generalize (aM g.F9 x).getD eY=vx at *;clear N4 hb5;subst hq;go_wp2;go_roundw;exact⟨k+1,WQ,Zf,eK.o.alloc eK.o.size _⟩;exact Ti
 have fy:=YS cJ hB;exact TcN
def Od{ok:LN}(v:ay)(s:aB){u1 u2:RH}{w:H7}(hv:aN ok w u1 v)(hs:bC ok w u2 s)(ha:Wq s.Ga<=1000000)(hS:AW w)(hvn:v.name.size<=1000000000)(h5:s.kind=5->2<=Wq s.Ga)(h7:s.kind=7->3<=Wq s.Ga)(pD:jS v s=VR):Calls prog 74 #[Tk u1.toArray,Tk u2.toArray] w fun e w'=>e=S6 (Ft VR)/\Below w.1.size w w':=by
 have My:=aa hv;have ak:=aa hs;obtain⟨tv,sv,rfl,ew,gA⟩:=hv;obtain⟨tp,tc,rfl,_,_⟩:=ew.cap;obtain⟨sp,sc,rfl,_,_⟩:=gA.cap;obtain⟨av,Rn,rfl,o0,hst⟩:=hs;obtain⟨ap,ac,rfl,aC,aE⟩:=o0.cap;obtain⟨eN,eR,rfl,am,ao⟩:=hst.cap;clear ew gA o0 hst;replace hS:=aa hS;replace h5:=aa h5;replace h7:=aa h7;have hb2:=(ae w (Sx (ZM v tp tc sp sc) 46)).trans ((ae (w.alloc (Sx (ZM v tp tc sp sc) 46)) (Sx (ZN s ap ac eN eR) 55)).mono (ae w _).size);have Yo:VS ok ((w.alloc (Sx (ZM v tp tc sp sc) 46)).alloc (Sx (ZN s ap ac eN eR) 55)) w.1.size (w.1.size+1) v s:=by
  refine⟨⟨_,(cj _ _ _ XN).trans (b9 w _),aN.moves.mv (Mv.of hb2) My.o⟩,⟨_,?_,bC.moves.mv (Mv.of hb2) ak.o⟩⟩;exact Tb9
 replace hb2:=aa hb2;replace Yo:=aa Yo;have HF:Hid (_=VR):=aa ((jS.eq_1 v s).symm.trans pD);clear pD;have s0:∀wr:H7,wr.1[w.1.size+1]?=((w.alloc (Sx (ZM v tp tc sp sc) 46)).alloc (Sx (ZN s ap ac eN eR) 55)).1[w.1.size+1]?->wr.1[w.1.size]?=((w.alloc (Sx (ZM v tp tc sp sc) 46)).alloc (Sx (ZN s ap ac eN eR) 55)).1[w.1.size]?->wr.cell? (XM (w.1.size+1) 2)=Vv (Bm Sj s.kind)/\wr.cell? (XM (w.1.size+1) 6)=Vv (By s.log)/\wr.cell? w.1.size=Vv (By v.name):=fun wr h1 h0=>by
  have e1:wr.1[w.1.size+1]?=Vv (Sx (ZN s ap ac eN eR) 55 (0,0)):=by
   rw[h1];exact Tb9
  have e0:wr.1[w.1.size]?=Vv (Sx (ZM v tp tc sp sc) 46 (0,0)):=h0.trans ((cj _ _ _ XN).trans (b9 w _));exact⟨cr e1 _ _ lX,cr e1 _ _ lX,cr e0 _ _ lX⟩
 replace s0:=aa s0;by_cases k34:s.kind=3\/s.kind=4
 ·rw[aw k34]at HF;have Ro:=aa (Bool.and_eq_true_iff.1 HF.o);clear HF;have hk:(s.kind==3)=VR\/((s.kind==3)=VN/\(s.kind==4)=VR):=by
   rcases k34 with h|h
   ·exact .inl Tdx
   exact .inr ⟨Tdy,Tdx⟩
  clear k34;rcases hk with k3|⟨k3,k4⟩
  all_goals
   go_enter func74,ntmps74;have s3:((w.alloc (Sx (ZM v tp tc sp sc) 46)).alloc (Sx (ZN s ap ac eN eR) 55)).cell? (XM (w.1.size+1) 3)=Vv (FG ap (Wq s.Ga) ac):=aD XN lX;go_wp2;generalize a7:AI (AI w _) _=W2 at *;clear a7 s3
   go_loopw[18] (fun i wr=>∃k:Nat,k<=Wq s.Ga/\i=Bm Sj k/\VS ok wr w.1.size (w.1.size+1) v s/\Below w.1.size w wr/\wr.1[w.1.size+1]?=W2.1[w.1.size+1]?/\wr.1[w.1.size]?=W2.1[w.1.size]?/\w.1.size+1<wr.1.size) (fun i _=>Wq s.Ga-(intOf i).toNat)
   exact⟨0,cg _,rfl,Yo.o,hb2.o,rfl,rfl,by obtain⟨⟨_,_,_⟩,⟨_,h,_⟩⟩:=Yo.o;exact aq h⟩;obtain⟨k,hk,rfl,eE,hB,a8,a9,mA⟩:=hrel;replace eE:=aa eE;replace a8:=aa a8;replace a9:=aa a9;by_cases hlt:k<Wq s.Ga
   ·obtain⟨r,hr⟩:=aj s.Ga k hlt;have Vz:=aa (uD hr);replace hr:=aa hr;go_wp2_with fail;refine(rR (ok:=ok) v s k k r eE.o hr.o (hS.o.below hB) hvn).mono ?_;rintro e w3 ⟨rfl,hb3⟩;have cJ:=aa (hB.trans (hb3.mono hB.size));have Rl:=aa (eE.o.below hb3);have ab:=aa ((hb3.block _ mA).trans a8.o);have af:=aa ((hb3.block _ WQ).trans a9.o);have au:Hid (w.1.size+1<w3.1.size):=aa (cC mA hb3.size);clear hb3;have hq:=Ro.o.1;unfold vU at hq;replace hq:=An.1 hq k (DP.2 hlt);rw[Vz.o]at hq;generalize dM v.name (jb k) r.on=qq at *;subst hq;go_wp2;go_roundw;exact⟨k+1,WQ,Zf,Rl.o,cJ.o,ab.o,af.o,au.o⟩;exact Ti
   obtain⟨_,l6,n0⟩:=s0.o wr a8.o a9.o
   cases hle:s.log.toList.isEmpty with
   |true =>
    go_wp2;go_ret;exact⟨rfl,hB⟩
   |false =>
    have hr:Hid (dM v.name (dH 1) s.log=VR):=aa (by have:=Ro.o.2;rwa[hle,nj]at this);have HC:=aa (fun W hW=>wC v.name.data.toList 1 W (by simpa using hvn) (hS.o.below hW));rw[<- bytes_eta]at HC;go_wp2_with fail;refine(HC.o _ hB).mono ?_;rintro e w3 ⟨rfl,hb3⟩;have cJ:=aa (hB.trans (hb3.mono hB.size));have aF:=(Sc hb3 mA).trans l6;clear hb3 l6;go_wp2_with fail;refine(mJ).mono ?_;rintro e w4 ⟨rfl,rfl⟩;go_wp2;go_ret;exact⟨ah hr.o,cJ.o⟩
 rw[bh k34]at HF;have k3:(s.kind==3)=VN:=by simp;omega
 have k4:(s.kind==4)=VN:=by simp;omega
 by_cases k5:s.kind=5
 ·rw[aw k5]at HF;have hl:=h5.o k5;have az:(s.kind==5)=VR:=by simpa using k5
  obtain⟨r0,hr0⟩:=aj s.Ga 0 WQ;obtain⟨r1,hr1⟩:=aj s.Ga 1 WQ;rw[uD hr0,uD hr1]at HF;clear k5 k34;go_enter func74,ntmps74
  go_wp2_with fail;generalize a7:AI (AI w _) _=W2 at *;clear a7;refine(kg (ok:=ok) v s 0 3 r0 Yo.o hr0 (hS.o.below hb2.o) hvn).mono ?_;rintro e w3 ⟨rfl,hb3⟩;have eE:=aa (Yo.o.below hb3);have cJ:=YS hb2 hb3;clear hb3;have Ro:=aa (Bool.and_eq_true_iff.1 HF.o);rw[Ro.o.1];go_wp2_with fail;refine(kg (ok:=ok) v s 1 2 r1 eE.o hr1 (hS.o.below cJ.o) hvn).mono ?_;rintro e w4 ⟨rfl,a5⟩;have ag:=aa (eE.o.below a5);have eI:=YS cJ a5;clear a5;rw[Ro.o.2];go_wp2;go_ret;exact⟨rfl,eI.o⟩
 rw[bh k5]at HF;have az:(s.kind==5)=VN:=by simpa using k5
 by_cases k7:s.kind=7
 ·rw[aw k7]at HF;have hl:=h7.o k7;have aA:(s.kind==7)=VR:=by simpa using k7
  obtain⟨r0,hr0⟩:=aj s.Ga 0 WQ;obtain⟨r1,hr1⟩:=aj s.Ga 1 WQ;obtain⟨r2,hr2⟩:=aj s.Ga 2 WQ;rw[uD hr0,uD hr1,uD hr2]at HF;clear k7 k34 k5;go_enter func74,ntmps74
  go_wp2_with fail;generalize a7:AI (AI w _) _=W2 at *;clear a7;refine(rR (ok:=ok) v s 0 0 r0 Yo.o hr0 (hS.o.below hb2.o) hvn).mono ?_;rintro e w3 ⟨rfl,hb3⟩;have eE:=aa (Yo.o.below hb3);have cJ:=YS hb2 hb3;clear hb3;have Ro:=aa (Bool.and_eq_true_iff.1 HF.o);have ai:=aa (Bool.and_eq_true_iff.1 Ro.o.1);rw[ai.o.1];go_wp2_with fail;refine(kg (ok:=ok) v s 1 2 r1 eE.o hr1 (hS.o.below cJ.o) hvn).mono ?_;rintro e w4 ⟨rfl,a5⟩;have ag:=aa (eE.o.below a5);have eI:=YS cJ a5;clear a5;rw[ai.o.2];go_wp2_with fail;refine(kg (ok:=ok) v s 2 3 r2 ag.o hr2 (hS.o.below eI.o) hvn).mono ?_;rintro e w5 ⟨rfl,hb5⟩;have Rl:=aa (ag.o.below hb5);have eK:=YS eI hb5;clear hb5;rw[Ro.o.2];exact Tc6
 rw[bh k7]at HF;have aA:(s.kind==7)=VN:=by simpa using k7
 clear k7 k34 k5;go_enter func74,ntmps74;go_wp2;go_ret;exact⟨rfl,hb2.o⟩
theorem Ld{ok:LN}(g:af)(a:iX)(bc Bc:Nat)(v:ay)(s:aB)(u1 u2:RH)(w:H7)(kB:gY w bc g a)(ag:w.cell? Bc=Vv (SL (Vv bc)))(Hh:Bc<w.1.size)(hg:dN ok w g a)(hz:JT g)(vu:∀d∈g.Gb,0<=d.Gc/\d.Gc<=1000000)
  (hv:aN ok w u1 v) (hs:bC ok w u2 s) (hf:wM s) (eE:qD v) (hS:AW w) (hvn:v.name.size<=1000000000) (aQ:mM g v s=0) (h6:s.kind=6->dD s VN=[]):Calls prog 70 #[Tk u1.toArray,Tk u2.toArray,SL (Vv Bc)] w fun e w'=>e=S6 (Bm Sj 0)/\Below w.1.size w w':=by
 have jt:=kB.lt;have My:=aa hv;have aD:=aa hs;obtain⟨tv,sv,rfl,ew,gA⟩:=hv;obtain⟨tp,tc,rfl,_,_⟩:=ew.cap;obtain⟨sp,sc,rfl,_,_⟩:=gA.cap;obtain⟨av,Rn,rfl,o0,hst⟩:=hs;obtain⟨ap,ac,rfl,bQ,bR⟩:=o0.cap;obtain⟨eN,eR,rfl,bg,bh⟩:=hst.cap;replace o0:=aa o0;clear ew gA hst;have I3:=aa kB;obtain⟨sm,ga,_⟩:=kB;have nw:Hid (bX w bc sm g a):=aa ga;clear ga;replace hg:=aa hg;have HZ:=aa hz;clear hz;replace vu:=aa vu;replace hS:=aa hS;have aR:=aa hf;have hl0:=hf.l0;have hl1:=hf.l1;have bS:=hf.ar;clear hf;replace ag:=aa ag;have hb2:=(ae w (Sx (ZM v tp tc sp sc) 46)).trans ((ae (w.alloc (Sx (ZM v tp tc sp sc) 46)) (Sx (ZN s ap ac eN eR) 55)).mono (ae w _).size);have h0:((w.alloc (Sx (ZM v tp tc sp sc) 46)).alloc (Sx (ZN s ap ac eN eR) 55)).1[w.1.size]?=Vv (Sx (ZM v tp tc sp sc) 46 (0,0)):=(cj _ _ _ XN).trans (b9 w _);have h1:((w.alloc (Sx (ZM v tp tc sp sc) 46)).alloc (Sx (ZN s ap ac eN eR) 55)).1[w.1.size+1]?=Vv (Sx (ZN s ap ac eN eR) 55 (0,0)):=by
  exact Tb9
 replace hb2:=aa hb2;replace h0:=aa h0;replace h1:=aa h1;have c0:=(hb2.o.cell (p:=Bc) Hh).trans ag.o;have HF:=aa (zZ aQ);clear aQ;go_enter func70,ntmps70
 go_wp2_with fail;generalize bi:AI (AI w _) _=W2 at *;clear bi c0;refine(Mm (ok:=ok) g a bc s (I3.o.below hb2.o) (hg.o.mv (Mv.of hb2.o)) HZ.o (bC.moves.mv (Mv.of hb2.o) aD.o) WQ HF.o.1).mono ?_;rintro e w3 ⟨rfl,hb3⟩;have cJ:=YS hb2 hb3;have a8:=Zl hb3 h0;have a7:=Zl hb3 h1;clear hb3 h0 h1;have LI:∀wr:H7,wr.1[w.1.size+1]?=Vv (Sx (ZN s ap ac eN eR) 55 (0,0))->∀(j:Nat) (z:zY),[Bm Sj s.start,Bm Sj s.length,Bm Sj s.kind,FG ap (Wq s.Ga) ac,Bm Sj s.chunk,FG eN (Wq s.stale) eR,By s.log,By s.pool,Bm Sj s.device,Bm Sj s.mode,Bm Sj s.done][j]?=Vv z->wr.cell? ⟨w.1.size+1,j,VX⟩=Vv z:=fun wr h j z hz=>by
  exact TcK
 have Rm:∀wr:H7,wr.1[w.1.size]?=Vv (Sx (ZM v tp tc sp sc) 46 (0,0))->∀(j:Nat) (z:zY),[By v.name,Bm U8 v.id,Ft v.hidden,Ft v.ro,FG tp (Wq v.tags) tc,FG sp (Wq v.Gf) sc][j]?=Vv z->wr.cell? ⟨w.1.size,j,VX⟩=Vv z:=fun wr h j z hz=>by
  exact TcK
 replace LI:=aa LI;replace Rm:=aa Rm;have s3:=LI.o w3 a7.o 3 _ lX;go_wp2;clear s3;go_loopw[23] (fun i wr=>∃k:Nat,k<=Wq s.Ga/\i=Bm Sj k/\Below w.1.size w wr/\wr.1[w.1.size]?=Vv (Sx (ZM v tp tc sp sc) 46 (0,0))/\wr.1[w.1.size+1]?=Vv (Sx (ZN s ap ac eN eR) 55 (0,0))) (fun i _=>Wq s.Ga-(intOf i).toNat)
 exact⟨0,cg _,rfl,cJ.o,a8.o,a7.o⟩;clear a8 a7 cJ;obtain⟨k,hk,rfl,hB,aS,aV⟩:=hrel;have a8:=aa aS;clear aS;have a7:=aa aV;clear aV;by_cases hlt:k<Wq s.Ga
 ·obtain⟨r,hr⟩:=aj s.Ga k hlt;obtain⟨b,off,us,rfl,_,cX,ez,Tv,am⟩:=o0.o.elem hr;obtain rfl:us=_:=Tv;have cT:wr.1[b]?=w.1[b]?:=hB.block b cX;obtain⟨q0,q1,q2⟩:=Mn cT am;replace hr:=aa hr;clear am ez cT;go_upto_region 6 with(fail);clear q0 q1 q2;have ox:=aa (b9 wr (Sx (Taw r) 53));have eK:=aa (hB.trans ((ae wr (Sx (Taw r) 53)).mono hB.size));have aL:=aa ((cj wr (Sx (Taw r) 53) _ (aq a8.o)).trans a8.o);have aE:=aa ((cj wr (Sx (Taw r) 53) _ (aq a7.o)).trans a7.o);have mA:=hB.size;generalize bk:AI wr _=W5 at *;generalize bT:wr.1.size=Bs at *;clear bk;refine pI (ok:=ok) W5 g a bc sm Bs r.on Bc (cC Hh eK.o.size) ((eK.o.cell (p:=Bc) Hh).trans ag.o) ((eK.o.block bc jt).trans nw.o) (by simp[AN,ox.o]) (aq ox.o) (hg.o.mv (Mv.of eK.o)) HZ.o lX rfl (aa ?_) (fun _ _ _ _ _ h=>h);intro ao au b8 W7 rn ah a5 _;have Vk:=YS eK rn;have aw:=Zl rn aL;have ab:=Zl rn aE;have aO:=(rn.block _ (aq ox.o)).trans ox.o;have v0:=cr aO 0 _ lX;have v2:=cr aO 2 _ lX;have d3:=cr a5 3 _ lX;have bU:=Da (nm:=r.on) vu.o;clear rn ah a5 aO ox eK aL aE;have az:=An.1 HF.o.2.1 r (ct hr.o);unfold fI at az;generalize (bH g.Gb r.on).getD gT=d at *;generalize (bH g.Gb r.on).isSome=dis at *;have bV:=aq ab.o;cases hrv:r.vol with
  |true =>
   rw[hrv]at v0;clear az;go_upto_region 7 with(fail);go_quiet (fail);go_wp2;go_roundw
   exact⟨k+1,WQ,Zf,aT Vk.o _,aw.o,ab.o⟩;exact Ti
  |false =>
   rw[hrv]at v0;rw[hrv]at az;simp only[nj,eh,fk]at az;obtain⟨⟨c0,c1⟩,c2⟩:=az;have y:=LI.o W7 ab.o;obtain⟨s0,s1,s2,s3,s4,s5,s6,s7,s8,s9,a9⟩:=IC y;have q0:V7 (r.start<0)=VN:=by simp;omega
   have q1:V7 (d.Gc<r.start)=VN:=by simp;omega
   have bW:IntKind.i64.wrap (d.Gc-r.start)=d.Gc-r.start:=dy _ WQ;clear y;go_upto_region 7 with(fail);have bl:=aG (cP W7 _ v0) v0;have bm:=aG (cP W7 _ v2) v2;have bp:=aG (cP W7 _ d3) d3;have bs:=aG (cP W7 _ s0) s0;have es1:=aG (cP W7 _ s1) s1;have bu:=aG (cP W7 _ s2) s2;have es3:=aG (cP W7 _ s3) s3;have bw:=aG (cP W7 _ s4) s4;have bz:=aG (cP W7 _ s5) s5;have bD:=aG (cP W7 _ s6) s6;have bE:=aG (cP W7 _ s7) s7;have bF:=aG (cP W7 _ s8) s8;have bG:=aG (cP W7 _ s9) s9;have aP:=aG (cP W7 _ a9) a9;have hen:=zV (k:=s.kind) (l:=s.length) (n:=Wq s.Ga) WQ;have bY:Hid (Below w.1.size w W7):=Vk;(refine aU Yp Yp ?_;(repeat(go_big_quiet_step ((go_at_call 73;exact iH (ji _ _ _ _ _ _ _ _ _ _ _ _ _ _ _ _ WQ WQ WQ)))));(with_reducible refine fR ?_);intro wq ia;have kq:=dY ia;clear ia)
   have fy:=YS Vk kq;have bI:=Zl kq aw;have bJ:=Zl kq ab;clear kq bl bm bp bs es1 bu es3 bw bz bD bE bF bG aP;have q2:V7 (d.Gc-r.start<iB s.kind s.length (Wq s.Ga))=VN:=by simp;omega
   go_wp2;go_roundw;exact⟨k+1,WQ,Zf,fy.o,bI.o,bJ.o⟩;exact Ti
 have y:=LI.o wr a7.o;obtain⟨s0,s1,s2,s3,s4,s5,s6,s7,s8,s9,a9⟩:=IC y;have y':=Rm.o wr a8.o;obtain⟨v0,v1,v2,v3,v4,v5⟩:=sv6 y';have aA:=aa hB;go_wp2_with fail;clear s0 s1 s2 s3 s4 s5 s6 s7 s8 s9 a9 y v0 v1 v2 v3 v4 v5 y';refine(Od (ok:=ok) v s (aN.moves.mv (Mv.of aA.o) My.o) (bC.moves.mv (Mv.of aA.o) aD.o) WQ (hS.o.below aA.o) hvn aR.o.p5 aR.o.p7 HF.o.2.2.1).mono ?_;rintro e w4 ⟨rfl,aF⟩;have eI:=YS aA aF;have aW:=Zl aF a8;have ai:=Zl aF a7;clear aF a8 a7 aA hB;have s2:=LI.o w4 ai.o 2 _ lX;by_cases hk6:s.kind=6
 ·have VA:(s.kind==6)=VR:=by simpa using hk6
  replace hk6:=aa hk6;go_upto_region 13 with(fail);clear s2;refine oG (ok:=ok) w4 g a bc sm s.pool Bc (cC Hh eI.o.size) ((eI.o.cell (p:=Bc) Hh).trans ag.o) ((eI.o.block bc jt).trans nw.o) (LI.o w4 ai.o 7 _ lX) (aq ai.o) (hg.o.mv (Mv.of eI.o)) HZ.o lX rfl (aa ?_) (fun _ _ _ _ _ h=>h);intro ao au aH aI b8 W7 rn ah a5 aX;have Vk:=YS eI rn;have aw:=Zl rn aW;have ab:=Zl rn ai;have bK:=aa aX;have mb:((aM g.F9 s.pool).getD eY).Gf.length<=1000000:=by
   cases hf:aM g.F9 s.pool with
   |none=>exact cg _
   |some y=>exact(HZ.o.vz y (eV hf)).Gf
  have bM:=aa (HF.o.2.2.2.1 hk6.o);generalize (aM g.F9 s.pool).isSome=fd at *;generalize (aM g.F9 s.pool).getD eY=vx at *;have n0:=sv6 (cr a5);clear rn ah a5 aX aW ai eI;go_wp2_with fail;refine(kU vx bK.o WQ).mono ?_;rintro e w5 ⟨rfl,hb5⟩;have eK:=YS Vk hb5;have aL:=Zl hb5 aw;have aE:=Zl hb5 ab;clear hb5 aw ab Vk n0;have aY:(eZ vx != 5)=VN:=by simpa using bM.o
  have y:=LI.o w5 aE.o;obtain⟨s0,s1,s2,s3,s4,s5,s6,s7,s8,s9,a9⟩:=IC y;go_wp2_with fail;clear s0 s1 s2 s3 s4 s5 s6 s7 s8 s9 a9 y aY;refine(kN (ok:=ok) s VN _ (bC.moves.mv (Mv.of eK.o) aD.o) WQ).mono ?_;rintro e w6 ⟨uv,rfl,ak,sh⟩;rw[h6 hk6.o]at ak;obtain⟨up,uc,rfl,_,_⟩:=(ak.rd (ok:=fun _=>True) (fun _ _=>trivial)).cap;have Tq:=YS eK sh;clear sh ak;go_wp2;go_loopw[86] (fun i wr=>i=Bm Sj 0/\Below w6.1.size w6 wr) (fun _ _=>0)
  exact⟨rfl,bj _ _⟩;obtain⟨rfl,hB⟩:=hrel;have fy:=YS Tq hB;exact TcN
 have VA:(s.kind==6)=VN:=by simpa using hk6
 clear hk6;have y:=LI.o w4 ai.o;obtain⟨s0,s1,s2,s3,s4,s5,s6,s7,s8,s9,a9⟩:=IC y;go_wp2_with fail;clear s0 s1 s2 s3 s4 s5 s6 s7 s8 s9 a9 y;refine(kN (ok:=ok) s VN _ (bC.moves.mv (Mv.of eI.o) aD.o) WQ).mono ?_;rintro e w6 ⟨uv,rfl,ak,sh⟩;have kf:=ak.rd (ok:=fun _=>True) (fun _ _=>trivial);obtain⟨up,uc,rfl,bZ,c4⟩:=kf.cap;replace kf:=aa kf;clear ak;have Tq:=YS eI sh;clear sh;have ez:(dD s VN).length<=1000002:=oL s VN WQ;have HNB:=aa HF.o.2.2.2.2;generalize hL:dD s VN=L at *;clear hL;go_wp2;go_loopw[86] (fun i wr=>∃k:Nat,k<=L.length/\i=Bm Sj k/\Below w6.1.size w6 wr) (fun i _=>L.length-(intOf i).toNat)
 exact⟨0,cg _,rfl,bj _ _⟩;obtain⟨k,hk,rfl,hB⟩:=hrel;by_cases hlt:k<L.length
 ·obtain⟨x,hx⟩:=aj L k hlt;obtain⟨b,off,us,rfl,_,cX,TE,Tv,am⟩:=kf.o.elem hx;obtain rfl:us=_:=Tv;have q0:=(Sc hB cX).trans (am 0 _ lX);rw[fp,fg]at q0;replace hx:=aa hx;have fy:=YS Tq hB;have g0:=bX.cells (sm:=sm) ((fy.o.block bc jt).trans nw.o);have cc:=(fy.o.cell (p:=Bc) Hh).trans ag.o;clear am TE;go_wp2_with fail;clear g0 cc;refine(fA (ok:=ok) g a x _ (hg.o.mv (Mv.of fy.o)).F9 HZ.o.vl HZ.o.vz).mono ?_;rintro e w8 ⟨u8,rfl,aZ,ah⟩;have bO:=aa aZ;obtain⟨t8,s8,rfl,ba,bd⟩:=aZ;obtain⟨ao,au,rfl,_,_⟩:=ba.cap;obtain⟨aH,aI,rfl,_,_⟩:=bd.cap;clear ba bd;have aJ:Below w6.1.size w6 w8:=hB.trans (ah.mono hB.size);have Ix:=aa aJ;have cT:=IS.1 HNB.o x (ct hx.o);unfold dh at cT;simp only[tG,not_or,Bool.not_eq_true]at cT;have mb:((aM g.F9 x).getD eY).Gf.length<=1000000:=by
   cases hf:aM g.F9 x with
   |none=>exact cg _
   |some y=>exact(HZ.o.vz y (eV hf)).Gf
  generalize (aM g.F9 x).isSome=fd at *;generalize (aM g.F9 x).getD eY=vx at *;have hA:=ae w8 (Sx (ZM vx ao au aH aI) 46);have bP:=aa (b9 w8 (Sx (ZM vx ao au aH aI) 46));have be:=aa (aN.moves.mv (Mv.of hA) bO.o);have pL:=aa (aJ.trans (hA.mono aJ.size));have VB:=aa (aq (b9 w8 (Sx (ZM vx ao au aH aI) 46)));clear hA ah aJ;go_wp2_with fail;generalize DA:AI w8 _=WA at *;clear DA;refine(kU vx be.o WQ).mono ?_;rintro e w9 ⟨rfl,aK⟩;have J1:=YS pL aK;have VC:=aa (aN.moves.mv (Mv.of aK) be.o);have bf:=(aK.block _ VB.o).trans bP.o;have n0:=sv6 (cr bf);clear bf aK;obtain⟨c6,aY⟩:=cT;go_wp2_with fail;refine(kU vx VC.o WQ).mono ?_;rintro e c7 ⟨rfl,aC⟩;have Ax:=YS J1 aC;clear aC;go_wp2;go_roundw;exact⟨k+1,WQ,Zf,Ax.o⟩;exact Ti
 have fy:=YS Tq hB;exact TcN
def TbX(h:gt:=by
 ·rintro e w2 ⟨rfl,hm,_⟩;have HM:=aa hm;clear hm;go_wp2;go_ret2;subst Uc;exact⟨rfl,HA.o.trans (HM.o.none.mono HA.o.size)⟩):=h
def LB{ok:LN}(g:af)(a:iX)(bc:Nat)(w:H7)(kB:gY w bc g a)(hg:dN ok w g a)(hf:UQ g)(hS:AW w)(a5:∀v∈g.F9,∀s∈v.Gf,mM g v s=0)(h6:∀v∈g.F9,∀s∈v.Gf,s.kind=6->dD s VN=[]):Calls prog 37 #[SL (Vv bc)] w (OkM w):=by
 have HRE:=aa a5;replace h6:=aa h6;clear a5;have hA:=ae w (Sx #[bc] 95);have HB:=aa (b9 w (Sx #[bc] 95));have HA:=aa hA;clear hA;have I3:=aa (kB.below HA.o);have HG:=aa (hg.mv (Mv.of HA.o));have HS:=aa (hS.below HA.o);replace hf:=aa hf;clear kB hg hS;go_enter func37,ntmps37
 go_wp2_with fail;generalize RE:AI w _=W1 at *;generalize Uc:w.1.size=Bc at *;clear RE;refine(Jc (ok:=ok) (F:=fun _=>False) 70 [SL (Vv Bc)] (fun l W=>by go_simp) g a bc (fun _ _=>True) W1 I3.o HG.o hf.o.sz (fun _ f=>f.elim) (fun _ _ _ _ _=>trivial) trivial ?_).mono ?_
 ·intro pre v s post hp W u1 u2 hm _ hv hs;obtain⟨m1,m2⟩:=jZ hp;have hb:=hm.none;refine(Ld (ok:=ok) g a bc Bc v s u1 u2 W (I3.o.below hb) ((hb.cell (p:=Bc) (aq HB.o)).trans (by simp[AN,HB.o])) (cC (aq HB.o) hb.size) (HG.o.mv (Mv.of hb)) hf.o.sz hf.o.de hv hs (hf.o.sf v m1 s m2) (hf.o.sz.vz v m1) (HS.o.below hb) (hf.o.vn v m1) (HRE.o v m1 s m2) (h6.o v m1 s m2)).mono ?_;rintro e W' ⟨rfl,a7⟩;exact⟨rfl,cR.of_below a7,trivial⟩
 exact TbX
def Oj{ok:LN}(g:af)(a:iX)(bc:Nat)(w:H7)(kB:gY w bc g a)(hg:dN ok w g a)(hf:UQ g)(a7:Cu g)(Ud:∀v∈g.F9,∀s∈v.Gf,Ah s)(a5:∀v∈g.F9,∀s∈v.Gf,CX g s=VR):Calls prog 38 #[SL (Vv bc)] w (OkM w):=by
 replace a5:=aa a5;have hA:=ae w (Sx #[bc] 95);have hB:=b9 w (Sx #[bc] 95);have hA2:=ae (w.alloc (Sx #[bc] 95)) (Sx #[.func (.func 78) #[] #[SL (Vv w.1.size)]] 141);have HL:=aa (b9 (w.alloc (Sx #[bc] 95)) (Sx #[.func (.func 78) #[] #[SL (Vv w.1.size)]] 141));have HB:=aa ((hA2.block _ (aq hB)).trans hB);have HA:=aa (hA.trans (hA2.mono hA.size));clear hA hA2 hB;have I3:=aa (kB.below HA.o);have HG:=aa (hg.mv (Mv.of HA.o));have HF:=aa hf;have Qc:=aa a7;replace Ud:=aa Ud;clear kB hg hf a7;go_enter func38,ntmps38
 go_wp2_with fail;generalize RE:AI (AI w _) _=W1 at *;rw[cW]at HL;have hne:w.1.size<w.1.size+1:=Nat.lt_succ_self _;generalize a9:w.1.size+1=Bl at *;generalize Uc:w.1.size=Bc at *;clear RE;refine(Jc (ok:=ok) (F:=fun _=>False) 80 [SL (Vv Bl),SL (Vv Bc)] (fun l W=>by go_simp) g a bc (fun _ _=>True) W1 I3.o HG.o HF.o.sz (fun _ f=>f.elim) (fun _ _ _ _ _=>trivial) trivial ?_).mono ?_
 ·intro pre v s post hp W u1 u2 hm _ hv hs;obtain⟨m1,m2⟩:=jZ hp;have hb:=hm.none;refine(NK (ok:=ok) g a bc Bc Bl v s u1 u2 W (I3.o.below hb) ((hb.cell (p:=Bc) (aq HB.o)).trans (by simp[AN,HB.o])) (cC (aq HB.o) hb.size) ((hb.cell (p:=Bl) (aq HL.o)).trans (by simp[AN,HL.o])) (cC (aq HL.o) hb.size) (HG.o.mv (Mv.of hb)) HF.o.sz Qc.o HF.o.ext hv hs (Ud.o v m1 s m2) (a5.o v m1 s m2)).mono ?_;rintro e W' ⟨rfl,a8⟩;exact⟨rfl,cR.of_below a8,trivial⟩
 exact TbX
def Ny{l:QN}(h:eP l=0):l.length<=8/\∀k,k<l.length->kV l k=VR:=by
 unfold eP at h;split at h
 ·cases h
 split at h
 ·rename_i h2;exact⟨WQ,fun k hk=>An.1 h2 k (DP.2 hk)⟩
 cases h
def Ns(h:qX g=0):jo g.name=VR/\lm g/\iR g/\eP g.tags=0/\g.history.all lL=VR:=by
 unfold qX at h;split at h
 ·cases h
 split at h
 ·cases h
 split at h
 ·cases h
 split at h
 ·rename_i h4;exact absurd h h4
 split at h
 ·rename_i h1 h2 h3 h4 h5;exact⟨TdL,Decidable.byContradiction h2,Decidable.byContradiction h3,by simpa using h4,h5⟩
 cases h
def Tcl(h:gt:=by
 go_wp2;go_roundw;exact⟨k+1,WQ,Zf,cm.o⟩;exact Ti):=h
def Lh{ok:LN}(l:QN){v:zY}(w:H7)(hr:ck aF 1 ok w [v] l)(hl:l.length<=1000000)(zc:∀s∈l,s.size<=9223372036854775807)(ht:eP l=0):Calls prog 62 #[v] w fun e w'=>e=S6 (Bm Sj 0)/\Below w.1.size w w':=by
 obtain⟨p,c,rfl,ag,ah⟩:=hr.cap;replace hr:=aa hr;replace zc:=aa zc;have HT:=aa (Ny ht);clear ht;go_enter func62,ntmps62;have hd:V7 ((8:Int)<(l.length:Int))=VN:=by have:=HT.o.1;simp;omega
 go_wp2;go_loopw[10,3,4] (fun i _ _ wr=>∃k:Nat,k<=l.length/\i=Bm Sj k/\Below w.1.size w wr) (fun i _ _ _=>l.length-(intOf i).toNat)
 exact⟨0,cg _,rfl,bj _ _⟩;obtain⟨k,hk,rfl,hB⟩:=hrel;by_cases hlt:k<l.length
 ·obtain⟨s,hs⟩:=aj l k hlt;obtain⟨b,off,us,rfl,_,cX,ez,eE,a9⟩:=hr.o.elem hs;obtain rfl:us=_:=eE;have q0:=(Sc hB cX).trans (a9 0 _ lX);rw[fp,fg]at q0;have HG:Hid (l.getD k ⟨#[]⟩=s):=aa (by simp[hs]);have Ud:=zc.o s (ct hs);clear a9 ez hs;have a5:=HT.o.2 k hlt;unfold kV at a5;rw[HG.o,eh,tG,fk]at a5;replace a5:=aa a5;go_wp2_with fail;refine(Af s _ Ud).mono ?_;rintro e w2 ⟨rfl,hb2⟩;rw[a5.o.1];have cm:=aa (hB.trans (hb2.mono hB.size));clear hb2;by_cases hk0:k<1
  ·exact Tcl
  obtain⟨r,a8⟩:=aj l (k-1) WQ;obtain⟨b',ab,ae,e',_,af,TE,Tv,a7⟩:=hr.o.elem a8;obtain rfl:ae=_:=Tv;injection e' with e';injection e' with eb eo;subst eb;subst eo;have q1:=(Sc cm.o cX).trans (a7 0 _ lX);rw[fp,fg]at q1;have hc:Op.bytesLess r.toList s.toList=VR:=by
   have:=a5.o.2.resolve_left WQ;rwa[show l.getD (k-1) ⟨#[]⟩=r by simp[a8]]at this
  clear a7 TE af a8 q0;exact Tcl
 go_wp2;go_ret;exact⟨rfl,hB⟩
def TcZ(h:gt:=by
 exact Tc7):=h
def Tck(h:gt:=by
 exact TcZ):=h
def Oo{ok:LN}(g:af)(a:iX)(bc:Nat)(w:H7)(kB:gY w bc g a)(hg:dN ok w g a)(hz:UT g)(hS:AW w)(he:qX g=0):Calls prog 33 #[SL (Vv bc)] w (OkM w):=by
 have jt:=kB.lt;obtain⟨sm,ga,a7⟩:=kB;have nw:Hid (bX w bc sm g a):=aa ga;clear ga a7;obtain⟨g0,g1,g2,g3,g4,g5,g6,g7,g8⟩:=bX.cells nw.o;have HT:=aa hg.tags;have HH:=aa hg.hist;have HZ:=aa hz;have HS:=aa hS;have aA:=hz.hl;have ag:=hz.name;obtain⟨vp,vc,sT,aB,aC⟩:=hg.hist.cap;injection sT with e1 e2 e3;obtain⟨p6,c6,h6,ah,ai⟩:=hg.Gb.cap;obtain⟨p7,c7,h7,ak,am⟩:=hg.F9.cap;clear hg hz hS;obtain⟨ID,a8,a9,G3,G4,Ge,Hb,Hc⟩:=a;dsimp only at e1 e2 e3 g0 g1 g2 g3 g4 g5 g6 g7 g8 h6 h7;subst e1;subst e3;clear e2 h6 h7 ah ai ak am;have HE:=aa (Ns he);clear he;have CN:=aa (b9 w (Sx (Tap g ID a8 a9 G3 G4 Ge Hb Hc) 31));have hA:=ae w (Sx (Tap g ID a8 a9 G3 G4 Ge Hb Hc) 31);have cU:=aa hA;have ao:=aa (HS.o.below hA);clear hA;go_enter func33,ntmps33
 go_wp2_with fail;clear g0 g1 g2 g3 g4 g5 g6 g7 g8;generalize RE:AI w _=W1 at *;have au:w.1.size=w.1.size:=rfl;generalize aD:w.1.size=B at CN;clear RE au;refine(fT g.name W1 ag ao.o).mono ?_;rintro e w2 ⟨rfl,hb2⟩;rw[HE.o.1];have cm:=YS cU hb2;have pH:=Zl hb2 CN;clear hb2 cU CN;have n2:=cr pH.o 2 _ lX;have n3:=cr pH.o 3 _ lX;have n4:=cr pH.o 4 _ lX;have n5:=cr pH.o 5 _ lX;have n6:=cr pH.o 6 _ lX;have n7:=cr pH.o 7 _ lX;have n8:=cr pH.o 8 _ lX;obtain⟨r1,r2,r3,r4,r5,r6⟩:=HE.o.2.1;obtain⟨l1,l2,l3⟩:=HE.o.2.2.1;have d6:V7 ((8:Int)<(Wq g.Gb:Int))=VN:=by simp;omega
 have d7:V7 ((32:Int)<(Wq g.F9:Int))=VN:=by simp;omega
 have d8:V7 ((32:Int)<(Wq g.history:Int))=VN:=by simp;omega
 go_wp2_with fail;refine(Lh (ok:=ok) g.tags w2 ((ck.moves aF.moves).mv (Mv.of cm.o) HT.o) HZ.o.tags.1 HZ.o.tags.2 HE.o.2.2.2.1).mono ?_;rintro e w3 ⟨rfl,hb3⟩;have cJ:=YS cm hb3;have aE:w3.cell? (XM B 8)=Vv (FG Hb (Wq g.history) Hc):=by simp[AN,(hb3.block _ (aq pH.o)).trans pH.o]
 clear hb3 cm pH n2 n3 n4 n5 n6 n7 n8 d6 d7 d8 l1 l2 r1 r2 r3 r4 r5 r6;go_wp2_with fail;go_loopw[72,7] (fun i _ wr=>∃k:Nat,k<=Wq g.history/\i=Bm Sj k/\Below w.1.size w wr) (fun i _ _=>Wq g.history-(intOf i).toNat)
 exact⟨0,cg _,rfl,cJ.o⟩;clear cJ;obtain⟨k,hk,rfl,hB⟩:=hrel;by_cases hlt:k<Wq g.history
 ·obtain⟨h,hh⟩:=aj g.history k hlt;obtain⟨b,off,us,hbo,gR,cX,ez,eE,ab⟩:=HH.o.elem hh;subst hbo;obtain rfl:us=_:=eE;obtain⟨hn,hid,TD⟩:=h;have cT:wr.1[b]?=w.1[b]?:=hB.block b cX;have q0:=Mn cT ab;have av:=HZ.o.hist _ (ct hh);have a5:=An.1 HE.o.2.2.2.2 _ (ct hh);unfold lL at a5;rw[eh,fk]at a5;replace a5:=aa a5;clear ab ez cT hh;have aw:=aa ((HS.o.below hB).below (ae wr (Sx #[By hn,Bm U8 hid,Bm Sj TD] 75)));have eI:=aa (hB.trans ((ae wr (Sx #[By hn,Bm U8 hid,Bm Sj TD] 75)).mono hB.size));have VG:=aa (b9 wr (Sx #[By hn,Bm U8 hid,Bm Sj TD] 75));go_wp2_with fail;clear q0;generalize ay:AI wr _=W4 at *;generalize az:wr.1.size=Bh at *;clear ay az hB;refine(fT hn W4 av aw.o).mono ?_;rintro e w5 ⟨rfl,hb5⟩;rw[show jo hn=VR from a5.o.1];have eK:=YS eI hb5;have m2:w5.cell? (XM Bh 2)=Vv (Bm Sj TD):=by simp[AN,(hb5.block _ (aq VG.o)).trans VG.o]
  clear hb5 eI VG;obtain⟨s1,s2⟩:0<=TD/\TD<=1048575:=a5.o.2;exact Tck
 go_wp2;go_ret2;exact⟨rfl,hB⟩
def TbC(h:gt:=by
 split at h
 ·cases h
 split at h
 ·cases h
 split at h
 ·cases h
 rename_i h1 h2 h3;exact⟨TdL,Bool.eq_false_iff.2 h2,Decidable.byContradiction h3,h⟩):=h
def Nv(h:pg g k d=0):jo d.name=VR/\(g.Gb.take k).any (dG d)=VN/\jQ g d/\eP d.tags=0:=by
 unfold pg at h;exact TbC
def OJ{v:ay}(h:yH g k v=0):nE v=VR/\(g.F9.take k).any (fC v)=VN/\(1<=Wq v.Gf/\Wq v.Gf<=64)/\eP v.tags=0:=by
 unfold yH at h;exact TbC
def Tei(h:gt:=by simp[World.cell?,sX.o]):=h
def NI{ok:LN}(g:af)(a:iX)(bc:Nat)(w:H7)(kB:gY w bc g a)(hg:dN ok w g a)(hz:UT g)(hx:1<=g.Gd/\g.Gd<=1024)(hS:AW w)(vu:∀(k:Nat) (d:az),g.Gb[k]?=Vv d->pg g k d=0):Calls prog 34 #[SL (Vv bc)] w (OkM w):=by
 have kj:=aa fun k d h=>Nv (vu k d h);clear vu;have jt:=kB.lt;obtain⟨sm,ga,a5⟩:=kB;have nw:Hid (bX w bc sm g a):=aa ga;clear ga a5;obtain⟨g0,g1,g2,g3,g4,g5,g6,g7,g8⟩:=bX.cells nw.o;have HG:=aa hg.Gb;have HZ:=aa hz;have HX:=aa hx;have HS:=aa hS;have CD:=hz.dl;obtain⟨vp,vc,sT,av,aw⟩:=hg.Gb.cap;clear hg hz hx hS;injection sT with e1 e2 e3
 obtain⟨ID,ay,aA,G3,G4,Ge,Hb,Hc⟩:=a;dsimp only at e1 e2 e3 g0 g1 g2 g3 g4 g5 g6 g7 g8;subst e1;subst e3;clear e2;go_enter func34,ntmps34;go_wp2;clear g0 g1 g2 g3 g4 g5 g6 g7 g8
 go_loopw[14,4,5,6,7] (fun i _ _ _ _ wr=>∃k:Nat,k<=Wq g.Gb/\i=Bm Sj k/\Below w.1.size w wr) (fun i _ _ _ _ _=>Wq g.Gb-(intOf i).toNat)
 exact⟨0,cg _,rfl,bj _ _⟩;obtain⟨k,hk,rfl,hB⟩:=hrel;by_cases hlt:k<Wq g.Gb
 ·obtain⟨d,hd⟩:=aj g.Gb k hlt;have HD:=aa (kj.o k d hd);obtain⟨b,off,us,rfl,gR,cX,ez,eE,a9⟩:=HG.o.elem hd;have ab:=ct hd;have Pa:=HZ.o.disk d ab;have am:=Pa.1;have ag:=aa Pa.2;obtain⟨tv,rfl,ew⟩:=eE;obtain⟨tp,tc,rfl,_,_⟩:=ew.cap;have Hx:=aa ew;have cT:wr.1[b]?=w.1[b]?:=hB.block b cX;have q0:=sw7 cT a9;clear a9 ez cT ew Pa ab hd;have sX:=aa (b9 wr (Sx (u0 d tp tc) 69));have hA:=ae wr (Sx (u0 d tp tc) 69);have cU:=aa (hB.trans (hA.mono hB.size));have ah:=((cU.o.block bc jt).trans nw.o);obtain⟨g0,g1,g2,g3,g4,g5,g6,g7,g8⟩:=bX.cells (sm:=sm) ah;clear hA ah
  go_wp2_with fail;clear q0 g0 g1 g2 g3 g4 g5 g6 g7 g8;generalize RE:AI wr _=W1 at *;generalize ao:wr.1.size=Bd at *;clear RE ao;have a7:(g.Gb.take k).length=k:=by simp;omega
  have Fl:=sN (ok:=ok) (g.Gb.take k) d (Vv ⟨b,off,VX⟩) G3 Bd W1 (by rw[a7];exact ck.take ((ck.moves aO.moves).mv (Mv.of cU.o) HG.o) k hk) WQ Tei Tei (aq sX.o);rw[a7]at Fl;refine Fl.mono ?_;clear Fl a7 hB;rintro e w2 ⟨rfl,hb2⟩;rw[HD.o.2.1];have cm:=YS cU hb2;have B8:=Zl hb2 sX;clear hb2 cU sX;have n0:=cr B8.o 0 _ lX;go_wp2_with fail;refine(fT d.name w2 am (HS.o.below cm.o)).mono ?_;rintro e w3 ⟨rfl,hb3⟩;rw[HD.o.1];have cJ:=YS cm hb3;have n9:=Zl hb3 B8;clear hb3 cm B8 n0;have n0:=cr n9.o 0 _ lX;have n2:=cr n9.o 2 _ lX;have n3:=cr n9.o 3 _ lX;have n6:=cr n9.o 6 _ lX;obtain⟨-,-,-,g3,-,-,-,-,-⟩:=bX.cells (sm:=sm) ((cJ.o.block bc jt).trans nw.o);have aB:=HX.o.1;have hx2:=HX.o.2;obtain⟨r1,r2,r3,r4,r5⟩:=HD.o.2.2.1;have m1:0<=d.Gc*g.Gd:=oA r3 WQ;have w1:IntKind.i64.wrap (d.Gc*g.Gd)=d.Gc*g.Gd:=dy _ WQ;have w2:IntKind.i64.wrap (d.first+d.Gc*g.Gd)=d.first+d.Gc*g.Gd:=dy _ WQ;have k1:V7 (d.first<0)=VN:=cN WQ;have k2:V7 (65536<d.first)=VN:=cN WQ;have k3:V7 (d.Gc<0)=VN:=cN WQ;have k4:V7 (4096<d.Gc)=VN:=cN WQ;have k5:V7 (65536<d.first+d.Gc*g.Gd)=VN:=cN WQ;go_upto_region 9 with(fail);go_quiet (fail);clear k1 k2 k3 k4 k5 w1 w2 m1 r1 r2 r3 r4 r5 n2 n3 g3;have ai:=fun n=>aT cJ.o n;have Rq:∀n,(w3.drewN n).1[Bd]?=_:=fun n=>n9.o;have au:∀n,(w3.drewN n).cell? Bd=Vv (By d.name):=fun n=>n0
  go_wp2_with fail;clear cJ n9 n0 n6;generalize a8:w3.drewN _=W4 at *;have eI:Hid (Below w.1.size w W4):=aa (a8 ▸ ai _);have ak:=aa (a8 ▸ Rq _);clear ai Rq au a8;refine(Lh (ok:=ok) d.tags W4 ((ck.moves aF.moves).mv (Mv.of eI.o) Hx.o) ag.o.1 ag.o.2 HD.o.2.2.2).mono ?_;rintro e w5 ⟨rfl,hb5⟩;have eK:=YS eI hb5;have VH:=Zl hb5 ak;clear hb5 eI ak;have n0:=cr VH.o 0 _ lX;exact Tck
 obtain rfl:k=Wq g.Gb:=by omega
 go_wp2;go_ret2;exact⟨rfl,hB⟩
def Mj{ok:LN}(g:af)(a:iX)(bc:Nat)(w:H7)(kB:gY w bc g a)(hg:dN ok w g a)(hz:UT g)(hS:AW w)(a8:∀(k:Nat) (v:ay),g.F9[k]?=Vv v->yH g k v=0):Calls prog 35 #[SL (Vv bc)] w (OkM w):=by
 have ak:=aa fun k v h=>OJ (a8 k v h);clear a8;have jt:=kB.lt;obtain⟨sm,ga,a5⟩:=kB;have nw:Hid (bX w bc sm g a):=aa ga;clear ga a5;obtain⟨g0,g1,g2,g3,g4,g5,g6,g7,g8⟩:=bX.cells nw.o;have HG:=aa hg.F9;have HZ:=aa hz;have HS:=aa hS;have CD:=hz.vl;obtain⟨vp,vc,sT,ao,au⟩:=hg.F9.cap;clear hg hz hS;injection sT with e1 e2 e3
 obtain⟨ID,av,aw,G3,G4,Ge,Hb,Hc⟩:=a;dsimp only at e1 e2 e3 g0 g1 g2 g3 g4 g5 g6 g7 g8;subst e1;subst e3;clear e2;go_enter func35,ntmps35;go_wp2;clear g0 g1 g2 g3 g4 g5 g6 g7 g8
 go_loopw[14,4,5,6,7] (fun i _ _ _ _ wr=>∃k:Nat,k<=Wq g.F9/\i=Bm Sj k/\Below w.1.size w wr) (fun i _ _ _ _ _=>Wq g.F9-(intOf i).toNat)
 exact⟨0,cg _,rfl,bj _ _⟩;obtain⟨k,hk,rfl,hB⟩:=hrel;by_cases hlt:k<Wq g.F9
 ·obtain⟨v,hd⟩:=aj g.F9 k hlt;have HD:=aa (ak.o k v hd);obtain⟨b,off,us,rfl,gR,cX,ez,eE,a9⟩:=HG.o.elem hd;have ab:=ct hd;have Pa:=HZ.o.vol v ab;have ag:=Pa.1;have ah:=aa Pa.2;obtain⟨tv,sv,rfl,ew,gA⟩:=eE;obtain⟨tp,tc,rfl,_,_⟩:=ew.cap;obtain⟨sp,sc,rfl,hs1,hs2⟩:=gA.cap;have Hx:=aa ew;have cT:wr.1[b]?=w.1[b]?:=hB.block b cX;have q0:=sw6 cT a9;clear a9 ez cT ew gA Pa ab hd;have sX:=aa (b9 wr (Sx (ZM v tp tc sp sc) 46));have hA:=ae wr (Sx (ZM v tp tc sp sc) 46);have cU:=aa (hB.trans (hA.mono hB.size));have ai:=((cU.o.block bc jt).trans nw.o);obtain⟨g0,g1,g2,g3,g4,g5,g6,g7,g8⟩:=bX.cells (sm:=sm) ai;clear hA ai
  go_wp2_with fail;clear q0 g0 g1 g2 g3 g4 g5 g6 g7 g8;generalize RE:AI wr _=W1 at *;generalize am:wr.1.size=Bd at *;clear RE am;have a7:(g.F9.take k).length=k:=by simp;omega
  have Fl:=vH (ok:=ok) (g.F9.take k) v (Vv ⟨b,off,VX⟩) Ge Bd W1 (by rw[a7];exact ck.take ((ck.moves aN.moves).mv (Mv.of cU.o) HG.o) k hk) WQ Tei Tei (aq sX.o);rw[a7]at Fl;refine Fl.mono ?_;clear Fl a7 hB;rintro e w2 ⟨rfl,hb2⟩;rw[HD.o.2.1];have cm:=YS cU hb2;have B8:=Zl hb2 sX;clear hb2 cU sX;have n0:=cr B8.o 0 _ lX;have HH:Hid (∀b,v.hidden=b->w2.cell? (XM Bd 2)=Vv (Ft b)):=aa (by rintro b rfl;simp[AN,B8.o]);have XP:=HD.o.1;unfold nE at XP;cases hvh:v.hidden
  all_goals
   have n2:=HH.o _ hvh;rw[hvh]at XP;simp only[ej,fY,pj]at XP;replace XP:=aa XP;go_wp2_with fail
   first|refine(qO v.name w2 ag (HS.o.below cm.o)).mono ?_|refine(fT v.name w2 ag (HS.o.below cm.o)).mono ?_
   rintro e w3 ⟨rfl,hb3⟩;have cJ:=YS cm hb3;have n9:=Zl hb3 B8;clear hb3 cm B8 n0;have n2':w3.cell? (XM Bd 2)=Vv (Ft v.hidden):=by simp[AN,n9.o]
   rw[hvh]at n2';rw[XP.o];clear hvh n2 XP HH;have n5:=cr n9.o 5 _ lX;have n4:=cr n9.o 4 _ lX;have hr:=HD.o.2.2.1;have k1:V7 ((Wq v.Gf:Int)<1)=VN:=cN WQ;have k2:V7 ((64:Int)<(Wq v.Gf:Int))=VN:=cN WQ;clear hr;go_wp2_with fail;refine(Lh (ok:=ok) v.tags w3 ((ck.moves aF.moves).mv (Mv.of cJ.o) Hx.o) ah.o.1 ah.o.2 HD.o.2.2.2).mono ?_;rintro e w5 ⟨rfl,hb5⟩;have eK:=YS cJ hb5;clear hb5 cJ n9 n2' n4 n5 k1 k2;exact Tck
 obtain rfl:k=Wq g.F9:=by omega
 go_wp2;go_ret2;exact⟨rfl,hB⟩
end Go.Proofs.YtfmbphdjcghfnaaGreatDoor
