/- Lemmas: AlcR, AlcS, AlcT. -/
import Derived.Test.YtjdfihglehfelaaGreatDoorQm42
set_option maxRecDepth 100000
set_option maxHeartbeats 32000000
set_option linter.all false
namespace Go.Proofs.YtjdfihglehfelaaGreatDoor
open Go.Proofs.Tryz
open Go.RowKit Go.Maps Go.Shelf
attribute [local go_sem] Oper.semAt_some run_makeMap_plain
def IU (r:aY)(l:List (Nat × (Int × Int))):Int × Int × Int × Int:=if r.Gc<=Zv r l then (0,0,0,12) else (if r.Gg=1 then 2 else 1,Zv r l,r.Gc,0)
def TaP (x0:Int)(x1:Int)(x2:Int):Taa #[.int .i64 x0,.int .i64 x1,.int .i64 x2]:=⟨⟩
def JZ (g:af)(r:aY)(w:World)(e:Ending)(w':World):Prop :=
 ∃ xs,tK g r xs/\xs.length=g.Gb.length/\e=.returned (.tuple #[.agg (TaP ((IU r (iU xs)).1) ((IU r (iU xs)).2.1) ((IU r (iU xs)).2.2.1)),.int .i64 (IU r (iU xs)).2.2.2])/\Below w.heap.size w w'
def GD:Code->Bool
 | .rangeFunc _ _ _ _=>true
 | .seq a b=>GD a||GD b
 | .block _ c=>GD c
 | .loop c=>GD c
 | .scope c=>GD c
 | .cond _ a b=>GD a||GD b
 | _=>false
def Gq:Code->Option Code
 | .seq a b=>if GD a then (match Gq a with
   | some c=>some (.seq c b)
   | none=>some b) else Gq b
 | .block _ c=>Gq c
 | .scope c=>Gq c
 | _=>none
noncomputable def Jp (f:Func):Code:=((f.body.bind Gq).getD .skip)
def TaI :Taa #[.int .i64 0,.int .i64 0,.int .i64 0]:=⟨⟩
theorem Tdp {p:Prop}(h:p:=by simp [results,Tryz.results32,go_sem,a0,a1,a2]):p:=h
theorem Ta2 {p:Prop}(h:p:=by
 rw [aw hc] at fN
 have hd:decide (hv ≥ r.Gc)=true:=eA hc
 clear hc
 go_wp2
 obtain ⟨f1,f2,f3⟩:=fN.o (0) (0) (0) (12) _ rfl
 refine ⟨Tce,.inl ⟨_,_,rfl,run_takeDeferred f3,?_⟩⟩
 have a0:=cz f2 0 _ rfl
 have a1:=cz f2 1 _ rfl
 have a2:=cz f2 2 _ rfl
 exact ⟨.tuple #[.agg #[.int .i64 (0),.int .i64 (0),.int .i64 (0)],.int .i64 (12)],Tdp,f1⟩):p:=h
theorem JJ (R:Ending->World->Prop){c0 c1 c2 c3 c5 c7 c9 c10 c11 c12 c13 c14 c15 c16 c17 c18 c19 c20 c21 c22 c23 c24 c25 c26 c27 c28 c29 c30 c31 c32 c33 c34 c35 c36 c37 c38 c39 c40 c41 c42 c43 c44 c45 c46 c47 c48 c49 c50 c51 c52 c53 c54 c55 c56 c57 c58 c59 c60 c61 c62 c63 c64 c65 c66 c67 c68 c69 c70 c71 c72 c73 c74 c75 c76 c77 c78 c79 c80 c81 c82 c83 c84 c85 c86 c87 c88 c89 c90 c91 c92 c93 c94 c95 c96 c97:Value}(g:af)(a:bN)(r:aY)(px:Option Addr)(cx:Nat)(xs:List (List (Int × Int)))(b2 b6 D:Nat)(W:World)(hv:Int)(hq:rC r)(h1p:r.Gi*r.Gh=1)(ht:W.heap[b6]?=some (.cells (Tac g a r xs.length px cx) 120 (0,0)))(hx:W.heap[b6+1]?=some (.cells #[.int .i64 0,.int .i64 hv,.int .i64 r.Gc] 71 (0,0)))(hr:W.heap[b2]?=some (.cells TaI 71 (0,0)))(hD:W.heap[D]?=some (.deferred (some [])))(hne:b2≠b6+1)(hD1:D≠b2)(hD2:D≠b6+1)
  (HK:Hid (∀ (WF:World) (kk hh nn ee:Int),(kk,hh,nn,ee)=(if r.Gc<=hv then (0,0,0,12) else (if r.Gg=1 then 2 else 1,hv,r.Gc,0))->WF.heap[b2]?=some (.cells (TaP kk hh nn) 71 (0,0))->(∀ B,B<=b2->B<=b6+1->B<=D->B<=W.heap.size->Below B W WF)->R (.returned (.tuple #[.agg (TaP kk hh nn),.int .i64 ee])) WF)) :
  (Jp Tryz.f32).wp prog (bodyPostM Fence.wide 3 prog Tryz.f32 R) ⟨#[c0,c1,c2,c3,.pointer (some b2),c5,.pointer (some b6),c7,.pointer (some (Tab (b6+1) 0)),c9,c10,c11,c12,c13,c14,c15,c16,c17,c18,c19,c20,c21,c22,c23,c24,c25,c26,c27,c28,c29,c30,c31,c32,c33,c34,c35,c36,c37,c38,c39,c40,c41,c42,c43,c44,c45,c46,c47,c48,c49,c50,c51,c52,c53,c54,c55,c56,c57,c58,c59,c60,c61,c62,c63,c64,c65,c66,c67,c68,c69,c70,c71,c72,c73,c74,c75,c76,c77,c78,c79,c80,c81,c82,c83,c84,c85,c86,c87,c88,c89,c90,c91,c92,c93,c94,c95,c96,c97],[{ target:=.collected D,args:=#[] }]⟩ W:=by
 conv=>arg 2;whnf
 have Mi:=aa fun W=>Gt g a r (.slice px xs.length cx) W hq;rw [IA h1p] at Mi;have hKl:=lZ hD;have hA15:=ae W (.cells #[.int .i64 1,.int .i64 2,.int .i64 3] 134);have af9:=aa (b9 W (.cells #[.int .i64 1,.int .i64 2,.int .i64 3] 134));have ag0:=aa hA15;have H1:=aa hx;clear hx;have HR:=aa hr;clear hr;have HK0:=aa hD;clear hD;have tL:=cz ((hA15.block _ (aq ht)).trans ht);obtain ⟨t0,t1,t2,t3,t4,t5,t6,t7,t8,t9,t10,t11⟩:=IE tL;have t12:=tL 12 _ rfl;have t13:=tL 13 _ rfl;have t14:=tL 14 _ rfl;have t15:=tL 15 _ rfl;have t16:=tL 16 _ rfl;clear tL hA15 ht h1p
 go_wp2_with fail
 clear t0 t1 t2 t3 t4 t5 t6 t7 t8 t9 t10 t11 t12 t13 t14 t15 t16;refine (Mi.o _).mono ?_;rintro e w16 ⟨rfl,hb16⟩;have aa0:=aa (ag0.o.trans (hb16.mono ag0.o.size));have ag1:=aa ((hb16.block _ (aq af9.o)).trans af9.o);have Ut:=aa ((aa0.o.block _ (aq H1.o)).trans H1.o);have Zu:=aa ((aa0.o.block _ (aq HR.o)).trans HR.o);have HK16:=aa ((aa0.o.block _ hKl).trans HK0.o);clear hb16 ag0 af9 H1 HR HK0 Mi
 have ag8:∀ (kk hh nn ee:Int) (k0:Value),(kk,hh,nn,ee)=(if r.Gc<=hv then (0,0,0,12) else (if r.Gg=1 then 2 else 1,hv,r.Gc,0))->R (.returned (.tuple #[.agg (TaP kk hh nn),.int .i64 ee])) (((((w16.setCell (Tab (b6+1) 0) k0).setCell b2 (.int .i64 kk)).setCell (Tab b2 1) (.int .i64 hh)).setCell (Tab b2 2) (.int .i64 nn)).putObj D (.deferred none)) /\
   (((((w16.setCell (Tab (b6+1) 0) k0).setCell b2 (.int .i64 kk)).setCell (Tab b2 1) (.int .i64 hh)).setCell (Tab b2 2) (.int .i64 nn)).putObj D (.deferred none)).heap[b2]?=some (.cells (TaP kk hh nn) 71 (0,0)) /\
   ((((w16.setCell (Tab (b6+1) 0) k0).setCell b2 (.int .i64 kk)).setCell (Tab b2 1) (.int .i64 hh)).setCell (Tab b2 2) (.int .i64 nn)).heap[D]?=some (.deferred (some [])):=fun kk hh nn ee k0 he=>by
  have hk:((((w16.setCell (Tab (b6+1) 0) k0).setCell b2 (.int .i64 kk)).setCell (Tab b2 1) (.int .i64 hh)).setCell (Tab b2 2) (.int .i64 nn)).heap[D]?=some (.deferred (some [])):=(bw _ _ _ _ hD1).trans ((bw _ _ _ _ hD1).trans ((bw _ _ _ _ hD1).trans ((bw _ _ _ _ hD2).trans HK16.o)));have hb:((((w16.setCell (Tab (b6+1) 0) k0).setCell b2 (.int .i64 kk)).setCell (Tab b2 1) (.int .i64 hh)).setCell (Tab b2 2) (.int .i64 nn)).heap[b2]?=some (.cells (TaP kk hh nn) 71 (0,0)):=block_setCell (cs:=#[_,_,_]) (i:=2) _ (block_setCell (cs:=#[_,_,_]) (i:=1) _ (block_setCell (cs:=#[_,_,_]) (i:=0) _ ((bw _ _ _ _ hne).trans Zu.o)));have hb':(((((w16.setCell (Tab (b6+1) 0) k0).setCell b2 (.int .i64 kk)).setCell (Tab b2 1) (.int .i64 hh)).setCell (Tab b2 2) (.int .i64 nn)).putObj D (.deferred none)).heap[b2]?=_:=((grownBy_putObj' _ D _).block _ (aq hb) (fun q=>by injection q with q;exact hD1 q.symm)).trans hb
  refine ⟨HK.o _ kk hh nn ee he hb' fun B q1 q2 q3 q4=>?_,hb',hk⟩
  have PD:Below B W ((((w16.setCell (Tab (b6+1) 0) k0).setCell b2 (.int .i64 kk)).setCell (Tab b2 1) (.int .i64 hh)).setCell (Tab b2 2) (.int .i64 nn)) :=
   ((((aa0.o.mono q4).setCell (p:=⟨b6+1,0,none⟩) q2 _).setCell (p:=b2) q1 _).setCell (p:=⟨b2,1,none⟩) q1 _).setCell (p:=⟨b2,2,none⟩) q1 _
  exact PD.grown (grownBy_putObj' _ D _) (by have:=PD.size;omega) (fun k e=>by injection e with e;omega)
 have fN:=aa ag8;clear ag8;have i0:=cz ag1.o 0 _ rfl;have i1:=cz ag1.o 1 _ rfl;have x0:=cz Ut.o 0 _ rfl;have x1:=cz Ut.o 1 _ rfl;have x2:=cz Ut.o 2 _ rfl;have xf:=uy Ut.o;have y0:=fun V:Value=>cz (block_setCell (cs:=#[.int .i64 0,.int .i64 hv,.int .i64 r.Gc]) (i:=0) V Ut.o) 0 _ rfl;have y1:=fun V:Value=>cz (block_setCell (cs:=#[.int .i64 0,.int .i64 hv,.int .i64 r.Gc]) (i:=0) V Ut.o) 1 _ rfl;have y2:=fun V:Value=>cz (block_setCell (cs:=#[.int .i64 0,.int .i64 hv,.int .i64 r.Gc]) (i:=0) V Ut.o) 2 _ rfl;have z0:=fun V:Value=>cz ((bw w16 ⟨b6+1,0,none⟩ V _ hne).trans Zu.o) 0 _ rfl;have z1:=fun V:Value=>cz ((bw w16 ⟨b6+1,0,none⟩ V _ hne).trans Zu.o) 1 _ rfl;have z2:=fun V:Value=>cz ((bw w16 ⟨b6+1,0,none⟩ V _ hne).trans Zu.o) 2 _ rfl;have zf:=fun (V:Value) (i:Nat)=>uy ((bw w16 ⟨b6+1,0,none⟩ V _ hne).trans Zu.o) i;clear Ut Zu ag1 HK16 aa0 hKl hD1 hD2
 by_cases hp:r.Gg=1
 ·rw [aw hp] at fN
  rw [aw hp];clear hp
  by_cases hc:r.Gc<=hv
  ·exact Ta2
  ·rw [bh hc] at fN
   have hd:decide (hv ≥ r.Gc)=false:=cN hc;clear hc;go_wp2;obtain ⟨f1,f2,f3⟩:=fN.o (2) (hv) (r.Gc) (0) _ rfl;refine ⟨Tce,.inl ⟨_,_,rfl,run_takeDeferred f3,?_⟩⟩;have a0:=cz f2 0 _ rfl;have a1:=cz f2 1 _ rfl;have a2:=cz f2 2 _ rfl;exact ⟨.tuple #[.agg (TaP (2) (hv) (r.Gc)),.int .i64 (0)],Tdp,f1⟩
 ·rw [bh hp] at fN
  rw [bh hp];clear hp
  by_cases hc:r.Gc<=hv
  ·exact Ta2
  ·rw [bh hc] at fN
   have hd:decide (hv ≥ r.Gc)=false:=cN hc;clear hc;go_wp2;obtain ⟨f1,f2,f3⟩:=fN.o (1) (hv) (r.Gc) (0) _ rfl;refine ⟨Tce,.inl ⟨_,_,rfl,run_takeDeferred f3,?_⟩⟩;have a0:=cz f2 0 _ rfl;have a1:=cz f2 1 _ rfl;have a2:=cz f2 2 _ rfl;exact ⟨.tuple #[.agg (TaP (1) (hv) (r.Gc)),.int .i64 (0)],Tdp,f1⟩
theorem Ih {ok:Nat->Prop}(g:af)(a:bN)(r:aY)(w:World)(hg:dN ok w g a)(hgi:NL g)(hr:dK r)(hS:AW w)(Mu:kP g r=0)(h1p:r.Gi*r.Gh=1) :
  Calls prog 32 #[.agg (Tae g a),.agg (Taj r)] w (JZ g r w):=by
 refine callsIn_wide (n:=3) |>.1 ?_;refine callsIn_of_wp_marks func32 rfl trivial ?_ rfl;simp only [ntmps32,List.size_toArray,cS,gi,Nat.reduceAdd,Nat.reduceSub,Array.replicate_succ,Array.replicate_zero,List.push_toArray,List.append_toArray,List.nil_append,List.cons_append];refine wpIn_wide.2 ?_;have hA1:=ae w (.cells (Tae g a) 31);have hN1:=b9 w (.cells (Tae g a) 31);generalize hW1:w.alloc (.cells (Tae g a) 31)=W1 at *;have hA2:=ae W1 (.cells (Taj r) 35);have hN2:=b9 W1 (.cells (Taj r) 35);have hz1:W1.heap.size=w.heap.size+1:=by rw [<- hW1];exact cW ..
 generalize hW2:W1.alloc (.cells (Taj r) 35)=W2 at *;have hA3:=ae W2 (.cells TaI 71);have hN3:=b9 W2 (.cells TaI 71);have hz2:W2.heap.size=w.heap.size+2:=by rw [<- hW2,cW,hz1]
 generalize hW3:W2.alloc (.cells TaI 71)=W3 at *;have hz3:W3.heap.size=w.heap.size+3:=by rw [<- hW3,cW,hz2]
 have HB:=aa (hA1.trans ((hA2.mono Tcd).trans (hA3.mono Tcd)));have HG1:=aa ((hA3.block _ Tcd).trans ((hA2.block _ Tcd).trans hN1));have Lz:=aa ((hA3.block _ Tcd).trans hN2);have ux:=aa hN3;rw [hz1] at Lz;rw [hz2] at ux;clear hA1 hA2 hA3 hN1 hN2 hN3;have gL:=cz HG1.o;obtain ⟨g0,g1,g2,g3,g4,g5,g6,g7,g8⟩:=xr gL;have qL:=cz Lz.o;obtain ⟨q0,q1,q2,q3,q4,q5,q6⟩:=se qL;clear gL qL;have HP:=aa (GA g a r W3 (hg.mv (Mv.of HB.o)) hgi hr (hS.below HB.o));have Zi:=aa hg.Gb;clear hg hS;have LU:=aa Mu;have hq:=rC.of Mu
 have tP:(pM g).2=0:=by
  unfold kP at Mu;split at Mu
  ·assumption
  ·rename_i hm
   exact absurd Mu hm
 have ah4:=aa (Fb hgi tP);clear tP Mu
 go_wp2_with fail
 clear g0 g1 g2 g3 g4 g5 g6 g7 g8 q0 q1 q2 q3 q4 q5 q6
 try simp only [hW1,hW2,hW3]
 clear hW1 hW2 hW3;refine HP.o.mono ?_;clear HP;intro e w8 hp;obtain ⟨xv,xs,rfl,OA,Zs,vh,hb8⟩:=hp;rw [LU.o];rw [aw LU.o] at vh;have Ix:=aa (HB.o.trans (hb8.mono Tcd));obtain ⟨px,cx,rfl,PY,Ma⟩:=OA.cap;have PW:=aa OA;have HXP:=aa Zs;have NA:=aa vh;have yi:=aa (tK.runs ah4.o HXP.o NA.o);have HR8:=aa ((hb8.block _ Tcd).trans ux.o);have hz8:w.heap.size+3<=w8.heap.size:=by have:=hb8.size;omega
 clear hb8 OA Zs vh HG1 Lz HB ux;have hA9:=ae w8 (.cells (Tac g a r xs.length px cx) 120);have hN9:=b9 w8 (.cells (Tac g a r xs.length px cx) 120);generalize hW9:w8.alloc (.cells (Tac g a r xs.length px cx) 120)=W9 at *;have hz9:W9.heap.size=w8.heap.size+1:=by rw [<- hW9];exact cW ..
 have hA10:=ae W9 (.cells #[.int .i64 0,.int .i64 0,.int .i64 r.Gc] 71);have hN10:=b9 W9 (.cells #[.int .i64 0,.int .i64 0,.int .i64 r.Gc] 71);generalize hW10:W9.alloc (.cells #[.int .i64 0,.int .i64 0,.int .i64 r.Gc] 71)=W10 at *;have hz10:W10.heap.size=w8.heap.size+2:=by rw [<- hW10,cW,hz9]
 have hA11:=ae W10 (.map #[] 0);generalize hW11:W10.alloc (.map #[] 0)=W11 at *;have hz11:W11.heap.size=w8.heap.size+3:=by rw [<- hW11,cW,hz10]
 have hA12:=ae W11 (.cells #[.map none] 130);have hN12:=b9 W11 (.cells #[.map none] 130);generalize hW12:W11.alloc (.cells #[.map none] 130)=W12 at *;have hz12:W12.heap.size=w8.heap.size+4:=by rw [<- hW12,cW,hz11]
 rw [hz9] at hN10;rw [hz11] at hN12;have KV:=aa (hA9.trans ((hA10.mono Tcd).trans ((hA11.mono Tcd).trans (hA12.mono Tcd))));have ag9:=aa ((hA12.block _ Tcd).trans ((hA11.block _ Tcd).trans ((hA10.block _ Tcd).trans hN9)));have ah0:=aa ((hA12.block _ Tcd).trans ((hA11.block _ Tcd).trans hN10));have Ta:=aa hN12;have tL:=cz hN9;have t11:=cz hN9 11 _ rfl;have m0:=cz Ta.o 0 _ rfl;have mf:=uy Ta.o 0;clear hA9 hA10 hA11 hA12 hN9 hN10 hN12 tL
 go_upto_region 6 with (fail)
 have ra:∀ k,k≠w8.heap.size+3->(W12.setCell (Tab (w8.heap.size+3) 0) (.map (some (w8.heap.size+2)))).heap[k]?=W12.heap[k]?:=fun k e=>bw _ _ _ _ e;have ag2:=aa ((ra _ Tcd).trans ag9.o);have ah1:=aa ((ra _ Tcd).trans ah0.o);have WX:=aa (KV.o.setCell (p:=⟨w8.heap.size+3,0,none⟩) (by show w8.heap.size<=w8.heap.size+3;omega) (.map (some (w8.heap.size+2))));have hz13:(W12.setCell (Tab (w8.heap.size+3) 0) (.map (some (w8.heap.size+2)))).heap.size=w8.heap.size+4:=by simp [World.setCell,hz12]
 clear ra t11 m0 mf ag9 ah0 Ta KV;generalize hW13:World.setCell W12 _ _=W13 at *;clear hW13;have tL:=cz ag2.o;obtain ⟨t0,t1,t2,t3,t4,t5,t6,t7,t8,t9,t10,t11⟩:=IE tL;have t12:=tL 12 _ rfl;have t13:=tL 13 _ rfl;have t14:=tL 14 _ rfl;have t15:=tL 15 _ rfl;have t16:=tL 16 _ rfl;clear tL
 go_wp2_with fail
 clear t0 t1 t2 t3 t4 t5 t6 t7 t8 t9 t10 t11 t12 t13 t14 t15 t16;refine (GJ g a r _ W13).mono ?_;rintro e w14 ⟨rfl,rfl⟩;have hA14:=ae W13 (.cells (Tac g a r xs.length px cx) 120);have hN14:=b9 W13 (.cells (Tac g a r xs.length px cx) 120);have hz14:(W13.alloc (.cells (Tac g a r xs.length px cx) 120)).heap.size=w8.heap.size+5:=by rw [cW,hz13]
 rw [hz13] at hN14;have ae9:=aa (WX.o.trans (hA14.mono Tcd));have ah5:=aa ((hA14.block _ Tcd).trans ag2.o);have ah6:=aa ((hA14.block _ Tcd).trans ah1.o);have ah7:=aa hN14;clear hA14 hN14 ag2 ah1 WX;rw [hz13];generalize hW14:World.alloc W13 _=W14 at *;clear hW14;go_wp2;refine JF _ g a r px cx w8.heap.size xs W14 hz14 hq h1p yi.o ⟨PY,Ma⟩ ((PW.o.runs (bk _)).below ae9.o) ah7.o ah5.o ah6.o (aa ?_);intro D W h1 h2 h3 h4 h5 hK;rename_i K0 hK0;refine hK0 _ _ ?_;refine JJ _ g a r px cx xs _ _ D W _ hq h1p h2 h1 ((h3.block _ Tcd).trans ((ae9.o.block _ Tcd).trans HR8.o)) hK Tcd Tcd Tcd (aa ?_);intro WF kk hh nn ee he hbl PD;have hb:=PD w.heap.size Tcd Tcd Tcd (by have:=ae9.o.size;omega);exact ⟨xs,HXP.o,NA.o,by unfold IU;rw [<- he],Ix.o.trans ((ae9.o.mono Tcd).trans ((h3.mono Tcd).trans hb))⟩
end Go.Proofs.YtjdfihglehfelaaGreatDoor
namespace Go.Proofs.YtjdfihglehfelaaGreatDoor
open Go.Proofs.Tryz
open Go.RowKit Go.Maps Go.Shelf
def Ip (b:Nat):bN:=⟨none,0,some ⟨b+1,0,none⟩,1,some ⟨b+5,0,none⟩,1,none,0⟩
def Jm (w:World)(e:Ending)(w':World):Prop:=e=.returned (.agg #[.string ⟨#[118,103]⟩,.int .u64 0,.int .i64 0,.int .i64 1,.int .i64 0,.slice none 0 0,.slice (some (Tab (w.heap.size+1) 0)) 1 1,.slice (some (Tab (w.heap.size+5) 0)) 1 1,.slice none 0 0])/\dN (fun _=>True) w' uk (Ip w.heap.size)/\Below w.heap.size w w'
def TaR (x0:Option Addr):Taa #[.string ⟨#[97]⟩,.int .u64 0,.bool false,.bool false,.slice none 0 0,.slice x0 1 1]:=⟨⟩
def TaC (x0:Option Addr):Taa #[.int .i64 0,.int .i64 3,.int .i64 1,.slice x0 1 1,.int .i64 0,.slice none 0 0,.string ⟨#[]⟩,.string ⟨#[]⟩,.int .i64 0,.int .i64 0,.int .i64 0]:=⟨⟩
def TaM :Taa #[.string ⟨#[112,118,48]⟩,.int .u64 1,.int .i64 0,.int .i64 10,.bool false,.bool false,.slice none 0 0]:=⟨⟩
theorem GX (w:World):Calls prog 80 #[] w (Jm w):=by
 go_enter func80,ntmps80;have hA1:=ae w (.cells Tao 31);have hN1:=b9 w (.cells Tao 31);generalize hW1:w.alloc (.cells Tao 31)=W1 at *;have hz1:W1.heap.size=w.heap.size+1:=by rw [<- hW1,cW]
 have hA2:=ae W1 (.cells TaM 47);have hN2:=b9 W1 (.cells TaM 47);generalize hW2:W1.alloc (.cells TaM 47)=W2 at *;have hz2:W2.heap.size=w.heap.size+2:=by rw [<- hW2,cW,hz1]
 have hA3:=ae W2 (.cells Tao 31);have hN3:=b9 W2 (.cells Tao 31);generalize hW3:W2.alloc (.cells Tao 31)=W3 at *;have hz3:W3.heap.size=w.heap.size+3:=by rw [<- hW3,cW,hz2]
 rw [hz1] at hN2;rw [hz2] at hN3;have hB3:=hA1.trans ((hA2.mono Tcd).trans (hA3.mono Tcd));have q1:=(hA3.block _ Tcd).trans ((hA2.block _ Tcd).trans hN1);have q2:=(hA3.block _ Tcd).trans hN2;have z0:=cz hN3 0 _ rfl;have z1:=cz hN3 1 _ rfl;have z2:=cz hN3 2 _ rfl;have z3:=cz hN3 3 _ rfl;have z4:=cz hN3 4 _ rfl;have z5:=cz hN3 5 _ rfl;have z6:=cz hN3 6 _ rfl;have z7:=cz hN3 7 _ rfl;have z8:=cz hN3 8 _ rfl;have zf:=uy hN3;have HQ:=aa (⟨q1,q2,hN3,hB3⟩:_/\_/\_/\_);clear hA1 hA2 hA3 hN1 hN2 hN3 q1 q2 hB3
 go_upto_region 2 with (fail)
 clear hW1 hW2 hW3;clear z0 z1 z2 z3 z4 z5 z6 z7 z8 zf;obtain ⟨q1,q2,hN3,hB3⟩:=HQ.o;have r3:(((((((((W3.setCell (Tab (w.heap.size+2) 0) (.string ⟨#[118,103]⟩)).setCell (Tab (w.heap.size+2) 1) (.int .u64 0)).setCell (Tab (w.heap.size+2) 2) (.int .i64 0)).setCell (Tab (w.heap.size+2) 3) (.int .i64 1)).setCell (Tab (w.heap.size+2) 4) (.int .i64 0)).setCell (Tab (w.heap.size+2) 5) (.slice none 0 0)).setCell (Tab (w.heap.size+2) 6) (.slice (some (Tab (w.heap.size+1) 0)) 1 1)).setCell (Tab (w.heap.size+2) 7) (.slice none 0 0)).setCell (Tab (w.heap.size+2) 8) (.slice none 0 0)).heap[w.heap.size+2]?=some (.cells #[.string ⟨#[118,103]⟩,.int .u64 0,.int .i64 0,.int .i64 1,.int .i64 0,.slice none 0 0,.slice (some (Tab (w.heap.size+1) 0)) 1 1,.slice none 0 0,.slice none 0 0] 31 (0,0)):=block_setCell (cs:=#[_,_,_,_,_,_,_,_,_]) (i:=8) _ (block_setCell (cs:=#[_,_,_,_,_,_,_,_,_]) (i:=7) _ (block_setCell (cs:=#[_,_,_,_,_,_,_,_,_]) (i:=6) _ (block_setCell (cs:=#[_,_,_,_,_,_,_,_,_]) (i:=5) _ (block_setCell (cs:=#[_,_,_,_,_,_,_,_,_]) (i:=4) _ (block_setCell (cs:=#[_,_,_,_,_,_,_,_,_]) (i:=3) _ (block_setCell (cs:=#[_,_,_,_,_,_,_,_,_]) (i:=2) _ (block_setCell (cs:=#[_,_,_,_,_,_,_,_,_]) (i:=1) _ (block_setCell (cs:=#[_,_,_,_,_,_,_,_,_]) (i:=0) _ (hN3)))))))));have ks:∀ k,k≠w.heap.size+2->(((((((((W3.setCell (Tab (w.heap.size+2) 0) (.string ⟨#[118,103]⟩)).setCell (Tab (w.heap.size+2) 1) (.int .u64 0)).setCell (Tab (w.heap.size+2) 2) (.int .i64 0)).setCell (Tab (w.heap.size+2) 3) (.int .i64 1)).setCell (Tab (w.heap.size+2) 4) (.int .i64 0)).setCell (Tab (w.heap.size+2) 5) (.slice none 0 0)).setCell (Tab (w.heap.size+2) 6) (.slice (some (Tab (w.heap.size+1) 0)) 1 1)).setCell (Tab (w.heap.size+2) 7) (.slice none 0 0)).setCell (Tab (w.heap.size+2) 8) (.slice none 0 0)).heap[k]?=W3.heap[k]?:=fun k e=>(bw _ _ _ _ e).trans ((bw _ _ _ _ e).trans ((bw _ _ _ _ e).trans ((bw _ _ _ _ e).trans ((bw _ _ _ _ e).trans ((bw _ _ _ _ e).trans ((bw _ _ _ _ e).trans ((bw _ _ _ _ e).trans ((bw _ _ _ _ e).trans (rfl)))))))));have Uc:Below w.heap.size w (((((((((W3.setCell (Tab (w.heap.size+2) 0) (.string ⟨#[118,103]⟩)).setCell (Tab (w.heap.size+2) 1) (.int .u64 0)).setCell (Tab (w.heap.size+2) 2) (.int .i64 0)).setCell (Tab (w.heap.size+2) 3) (.int .i64 1)).setCell (Tab (w.heap.size+2) 4) (.int .i64 0)).setCell (Tab (w.heap.size+2) 5) (.slice none 0 0)).setCell (Tab (w.heap.size+2) 6) (.slice (some (Tab (w.heap.size+1) 0)) 1 1)).setCell (Tab (w.heap.size+2) 7) (.slice none 0 0)).setCell (Tab (w.heap.size+2) 8) (.slice none 0 0)):=(((((((((hB3).setCell (p:=⟨w.heap.size+2,0,none⟩) Tct _).setCell (p:=⟨w.heap.size+2,1,none⟩) Tct _).setCell (p:=⟨w.heap.size+2,2,none⟩) Tct _).setCell (p:=⟨w.heap.size+2,3,none⟩) Tct _).setCell (p:=⟨w.heap.size+2,4,none⟩) Tct _).setCell (p:=⟨w.heap.size+2,5,none⟩) Tct _).setCell (p:=⟨w.heap.size+2,6,none⟩) Tct _).setCell (p:=⟨w.heap.size+2,7,none⟩) Tct _).setCell (p:=⟨w.heap.size+2,8,none⟩) Tct _;have hzc:(((((((((W3.setCell (Tab (w.heap.size+2) 0) (.string ⟨#[118,103]⟩)).setCell (Tab (w.heap.size+2) 1) (.int .u64 0)).setCell (Tab (w.heap.size+2) 2) (.int .i64 0)).setCell (Tab (w.heap.size+2) 3) (.int .i64 1)).setCell (Tab (w.heap.size+2) 4) (.int .i64 0)).setCell (Tab (w.heap.size+2) 5) (.slice none 0 0)).setCell (Tab (w.heap.size+2) 6) (.slice (some (Tab (w.heap.size+1) 0)) 1 1)).setCell (Tab (w.heap.size+2) 7) (.slice none 0 0)).setCell (Tab (w.heap.size+2) 8) (.slice none 0 0)).heap.size=w.heap.size+3:=by simp [World.setCell,hz3]
 have r1:=(ks _ Tcd).trans q1;have r2:=(ks _ Tcd).trans q2;clear ks q1 q2 hN3 hB3 HQ;generalize hV:World.setCell (World.setCell (World.setCell (World.setCell (World.setCell (World.setCell (World.setCell (World.setCell (World.setCell W3 _ _) _ _) _ _) _ _) _ _) _ _) _ _) _ _) _ _=V3 at *;clear hV hz1 hz2 hz3;have hz3:=hzc;clear hzc;have hA4:=ae V3 (.cells #[.bool false,.string ⟨#[112,118,48]⟩,.int .i64 2] 60);have hN4:=b9 V3 (.cells #[.bool false,.string ⟨#[112,118,48]⟩,.int .i64 2] 60);generalize hW4:V3.alloc (.cells #[.bool false,.string ⟨#[112,118,48]⟩,.int .i64 2] 60)=W4 at *;have hz4:W4.heap.size=w.heap.size+4:=by rw [<- hW4,cW,hz3]
 have hA5:=ae W4 (.cells (TaC (some ⟨w.heap.size+3,0,none⟩)) 79);have hN5:=b9 W4 (.cells (TaC (some ⟨w.heap.size+3,0,none⟩)) 79);generalize hW5:W4.alloc (.cells (TaC (some ⟨w.heap.size+3,0,none⟩)) 79)=W5 at *;have hz5:W5.heap.size=w.heap.size+5:=by rw [<- hW5,cW,hz4]
 have hA6:=ae W5 (.cells (TaR (some ⟨w.heap.size+4,0,none⟩)) 55);have hN6:=b9 W5 (.cells (TaR (some ⟨w.heap.size+4,0,none⟩)) 55);generalize hW6:W5.alloc (.cells (TaR (some ⟨w.heap.size+4,0,none⟩)) 55)=W6 at *;have hz6:W6.heap.size=w.heap.size+6:=by rw [<- hW6,cW,hz5]
 rw [hz3] at hN4;rw [hz4] at hN5;rw [hz5] at hN6;have hb46:=(hA4.mono (B':=w.heap.size+3) Tcd).trans ((hA5.mono Tcd).trans (hA6.mono Tcd));have q1:=(hb46.block _ Tcd).trans r1;have q2:=(hb46.block _ Tcd).trans r2;have q3:=(hb46.block _ Tcd).trans r3;have q4:=(hA6.block _ Tcd).trans ((hA5.block _ Tcd).trans hN4);have q5:=(hA6.block _ Tcd).trans hN5;have c7:=cz q3 7 _ rfl;have cf:=uy q3;have qs:=aa (Uc.trans (hb46.mono Tcd));have HQ:=aa (⟨q1,q2,q3,q4,q5,hN6⟩:_/\_/\_/\_/\_/\_);clear hA4 hA5 hA6 hN4 hN5 hN6 q1 q2 q3 q4 q5 hb46 Uc r1 r2 r3
 go_upto_region 3 with (fail)
 clear hW4 hW5 hW6;obtain ⟨q1,q2,q3,q4,q5,q6⟩:=HQ.o;have ks:∀ (u:Value) k,k≠w.heap.size+2->(W6.setCell (Tab (w.heap.size+2) 7) u).heap[k]?=W6.heap[k]?:=fun u k e=>bw _ _ _ _ e;have r3:=block_setCell (i:=7) (.slice (some (Tab (w.heap.size+5) 0)) 1 1) q3;have r1:=(ks (.slice (some (Tab (w.heap.size+5) 0)) 1 1) _ Tcd).trans q1;have r2:=(ks (.slice (some (Tab (w.heap.size+5) 0)) 1 1) _ Tcd).trans q2;have r4:=(ks (.slice (some (Tab (w.heap.size+5) 0)) 1 1) _ Tcd).trans q4;have r5:=(ks (.slice (some (Tab (w.heap.size+5) 0)) 1 1) _ Tcd).trans q5;have r6:=(ks (.slice (some (Tab (w.heap.size+5) 0)) 1 1) _ Tcd).trans q6;have wk:=aa (qs.o.setCell (p:=⟨w.heap.size+2,7,none⟩) Tct (.slice (some (Tab (w.heap.size+5) 0)) 1 1));clear q1 q2 q3 q4 q5 q6 ks c7 cf;generalize hW7:World.setCell W6 _ _=W7 at *;clear hW7;have g0:=cz r3 0 _ rfl;have g1:=cz r3 1 _ rfl;have g2:=cz r3 2 _ rfl;have g3:=cz r3 3 _ rfl;have g4:=cz r3 4 _ rfl;have g5:=cz r3 5 _ rfl;have g6:=cz r3 6 _ rfl;have g7:=cz r3 7 _ rfl;have g8:=cz r3 8 _ rfl;have z0:=cz r1 0 _ rfl;have z1:=cz r1 1 _ rfl;have z2:=cz r1 2 _ rfl;have z3:=cz r1 3 _ rfl;have z4:=cz r1 4 _ rfl;have z5:=cz r1 5 _ rfl;have z6:=cz r1 6 _ rfl;have z7:=cz r1 7 _ rfl;have z8:=cz r1 8 _ rfl;have zf:=uy r1;have hd:ck aO 7 (fun k=>k≠w.heap.size) W7 [.slice (some (Tab (w.heap.size+1) 0)) 1 1] uk.Gb:=ck.one (u:=[.string ⟨#[112,118,48]⟩,.int .u64 1,.int .i64 0,.int .i64 10,.bool false,.bool false,.slice none 0 0]) r2 Tcd rfl ⟨_,rfl,ck.nil⟩;have ha:ck aQ 3 (fun k=>k≠w.heap.size) W7 [.slice (some (Tab (w.heap.size+3) 0)) 1 1] [⟨false,⟨#[112,118,48]⟩,2⟩]:=ck.one (u:=[.bool false,.string ⟨#[112,118,48]⟩,.int .i64 2]) r4 Tcd rfl rfl;have hs:ck bC 11 (fun k=>k≠w.heap.size) W7 [.slice (some (Tab (w.heap.size+4) 0)) 1 1] JQ.Gf:=ck.one (u:=[.int .i64 0,.int .i64 3,.int .i64 1,.slice (some (Tab (w.heap.size+3) 0)) 1 1,.int .i64 0,.slice none 0 0,.string ⟨#[]⟩,.string ⟨#[]⟩,.int .i64 0,.int .i64 0,.int .i64 0]) r5 Tcd rfl ⟨_,_,rfl,ha,ck.nil⟩;have hv:ck aN 6 (fun k=>k≠w.heap.size) W7 [.slice (some (Tab (w.heap.size+5) 0)) 1 1] uk.F9:=ck.one (u:=[.string ⟨#[97]⟩,.int .u64 0,.bool false,.bool false,.slice none 0 0,.slice (some (Tab (w.heap.size+4) 0)) 1 1]) r6 Tcd rfl ⟨_,_,rfl,ck.nil,hs⟩;have Lm:Hid (dN (fun k=>k≠w.heap.size) W7 uk (Ip w.heap.size)):=aa ⟨ck.nil,hd,hv,ck.nil⟩;clear r1 r2 r3 r4 r5 r6 hd ha hs hv HQ qs;go_wp2;refine eC (v:=.agg #[.string ⟨#[118,103]⟩,.int .u64 0,.int .i64 0,.int .i64 1,.int .i64 0,.slice none 0 0,.slice (some (Tab (w.heap.size+1) 0)) 1 1,.slice (some (Tab (w.heap.size+5) 0)) 1 1,.slice none 0 0]) (by simp [results,Tryz.results80,go_sem,z0,z1,z2,z3,z4,z5,z6,z7,z8]) rfl (show Jm w _ _ from ⟨rfl,?_,?_⟩)
 ·refine Lm.o.mv ⟨Tcq,fun k hk ho=>⟨trivial,?_⟩⟩
  simp only [bw _ ⟨w.heap.size,_,none⟩ _ k ho]
 ·have hL:∀ (V:World) (o:Nat) (z:Value),Below w.heap.size w V->Below w.heap.size w (V.setCell ⟨w.heap.size,o,none⟩ z):=fun V o z q=>q.setCell (p:=⟨w.heap.size,o,none⟩) (bk _) z
  exact hL _ _ _ (hL _ _ _ (hL _ _ _ (hL _ _ _ (hL _ _ _ (hL _ _ _ (hL _ _ _ (hL _ _ _ (hL _ _ _ wk.o))))))))
theorem Ir:NL uk:=by
 refine ⟨⟨Tcg,⟨Tcg,fun s hs=>by cases hs⟩,Tcg,Tcg,Tcg,fun d hd=>?_,fun v hv=>?_,fun h hh=>(by cases hh)⟩,⟨Tcg,fun d hd=>?_,Tcg,fun v hv=>?_⟩,fun v hv s hs=>?_,fun v hv s hs=>?_⟩
 ·obtain rfl:=List.mem_singleton.1 hd
  exact ⟨Tcg,Tcg,fun s hs=>by cases hs⟩
 ·obtain rfl:=List.mem_singleton.1 hv
  exact ⟨Tcg,Tcg,fun s hs=>by cases hs⟩
 ·obtain rfl:=List.mem_singleton.1 hd
  decide
 ·obtain rfl:=List.mem_singleton.1 hv
  exact ⟨Tcg,Tcg,fun s hs=>by obtain rfl:=List.mem_singleton.1 hs;decide⟩
 ·obtain rfl:=List.mem_singleton.1 hv
  obtain rfl:=List.mem_singleton.1 hs
  decide
 ·obtain rfl:=List.mem_singleton.1 hv
  obtain rfl:=List.mem_singleton.1 hs;exact ⟨Tcg,Tcg,fun x hx=>by obtain rfl:=List.mem_singleton.1 hx;decide,Tcg⟩
theorem JH:dK G8:=⟨Tcg,Tcg,Tcg,Tcg,Tcg,Tcg,Tcg⟩
theorem JC:dK Ib:=⟨Tcg,Tcg,Tcg,Tcg,Tcg,Tcg,Tcg⟩
def JR:List (List aR):=[[⟨false,⟨#[112,118,48]⟩,0⟩,⟨false,⟨#[112,118,48]⟩,5⟩]]
theorem Hq:xO uk G8 [[(0,2),(5,5)]]=(JR,true):=by
 unfold xO;rw [bh Tcg,bh Tcg]
 kernel_rfl
theorem Jd:AC uk G8 [[(0,2),(5,5)]]=0:=by
 unfold AC;rw [aw Jn,Hq];rfl
theorem Ju:IU Ib (iU [[(0,2),(5,5)]])=(2,5,6,0):=by kernel_rfl
theorem DR (w:World)(hS:AW w) :
  Calls prog 35 #[] w fun e w'=>e=.returned (.bool true)/\Below w.heap.size w w':=by
 have MD:=aa hS;clear hS;go_enter func35,ntmps35
 go_wp2_with fail
 refine (GX w).mono ?_;rintro e w1 ⟨rfl,hg1,hb1⟩;have cU:=aa hb1;have HA:=aa (rA (ok:=fun _=>True) uk (Ip w.heap.size) G8 w1 hg1 Ir JH (MD.o.below hb1));clear hg1 hb1
 go_wp2_with fail
 refine HA.o.mono ?_;clear HA;rintro e w2 ⟨v,xs,rfl,hb2,Uv,vh,-,gw⟩;rw [Jn,aw rfl] at vh;obtain rfl:=Iy JK Tcg Uv vh;rw [Jd] at gw ⊢;have ho:=gw rfl;rw [Hq] at ho;obtain ⟨pv,cv,rfl,-,-⟩:=ho.cap;obtain ⟨b,u,Kr,-,-,Ry,hou⟩:=ho.at (k:=0) rfl;subst Kr;have kf:=bF.rd (ok':=fun k=>k<w2.heap.size) aQ.moves hou Tcg (fun k hk _=>hk) (fun k e=>(iC.ge hou e).2);obtain ⟨p0,c0,rfl,hc01,hc02⟩:=kf.cap;obtain ⟨bp,off,us,rfl,hbp,-,-,eE,hcv⟩:=kf.elem (k:=1) (x:=⟨false,⟨#[112,118,48]⟩,5⟩) rfl;obtain rfl:us=_:=eE;have hs5:=hcv 2 _ rfl;have hbl:=cP w2 _ Ry;have cm:=aa (cU.o.trans (hb2.mono cU.o.size));have HCU:=aa Ry;have HS5:=aa hs5;have hl2:JR.length=1:=rfl;rw [hl2];clear ho gw Uv hb2 hou vh kf hcv hs5 Ry hl2
 go_wp2_with fail
 refine (GX w2).mono ?_;rintro e w3 ⟨rfl,hg3,hb3⟩;have cJ:=aa (cm.o.trans (hb3.mono cm.o.size));have HR:=aa (Ih (ok:=fun _=>True) uk (Ip w2.heap.size) Ib w3 hg3 Ir JC (MD.o.below cJ.o) JW Tcg);have HH3:=aa hb3;clear hg3 hb3
 go_wp2_with fail
 refine HR.o.mono ?_;clear HR;rintro e w4 ⟨xs,Uv,vh,rfl,hb4⟩;obtain rfl:=Iy JN Tcf Uv vh;rw [Ju];dsimp only;have hA5:=ae w4 (.cells TaI 71);have hN5:=b9 w4 (.cells TaI 71);have hz3:=HH3.o.size;have hz4:=hb4.size;have hb25:Below w2.heap.size w2 (w4.alloc (.cells TaI 71)):=HH3.o.trans ((hb4.mono hz3).trans (hA5.mono Tcd));have eK:=aa (cm.o.trans (hb25.mono cm.o.size));have hz5:(w4.alloc (.cells TaI 71)).heap.size=w4.heap.size+1:=cW ..;generalize hW5:w4.alloc (.cells TaI 71)=W5 at *;have z0:=cz hN5 0 _ rfl;have z1:=cz hN5 1 _ rfl;have z2:=cz hN5 2 _ rfl;have zf:=uy hN5;have hch:(((W5.setCell w4.heap.size (.int .i64 2)).setCell (Tab w4.heap.size 1) (.int .i64 5)).setCell (Tab w4.heap.size 2) (.int .i64 6)).heap[w4.heap.size]?=some (.cells #[.int .i64 2,.int .i64 5,.int .i64 6] 71 (0,0)):=block_setCell (cs:=#[_,_,_]) (i:=2) _ (block_setCell (cs:=#[_,_,_]) (i:=1) _ (block_setCell (cs:=#[_,_,_]) (i:=0) _ hN5));have ra:∀ k,k<w2.heap.size->(((W5.setCell w4.heap.size (.int .i64 2)).setCell (Tab w4.heap.size 1) (.int .i64 5)).setCell (Tab w4.heap.size 2) (.int .i64 6)).heap[k]?=w2.heap[k]?:=fun k hk=>(bw _ _ _ _ (show k≠w4.heap.size by omega)).trans ((bw _ _ _ _ (show k≠w4.heap.size by omega)).trans ((bw _ _ _ _ (show k≠w4.heap.size by omega)).trans (hb25.block k hk)))
 have hBF:Below w.heap.size w (((W5.setCell w4.heap.size (.int .i64 2)).setCell (Tab w4.heap.size 1) (.int .i64 5)).setCell (Tab w4.heap.size 2) (.int .i64 6)):=by
  have h0:=cm.o.size;exact ((eK.o.setCell (p:=w4.heap.size) (show w.heap.size<=w4.heap.size by omega) _).setCell (p:=⟨w4.heap.size,1,none⟩) (show w.heap.size<=w4.heap.size by omega) _).setCell (p:=⟨w4.heap.size,2,none⟩) (show w.heap.size<=w4.heap.size by omega) _
 have HF:=aa (⟨hch,ra,hBF⟩:_/\_/\_);clear hch ra hBF hN5 hA5 hb25 eK hb4 Uv vh
 go_upto_region 3 with (fail)
 clear z0 z1 z2 zf hW5;obtain ⟨hch,ra,hBF⟩:=HF.o;generalize hW6:World.setCell (World.setCell (World.setCell W5 _ _) _ _) _ _=W6 at *;clear hW6 HF;have x0:=cz hch 0 _ rfl;have x1:=cz hch 1 _ rfl;have x2:=cz hch 2 _ rfl;have cu:=(cd (a:=b) (ra b hbl)).trans HCU.o;have s5:=(cd (a:=⟨bp,off+1*3+2,none⟩) (ra bp hbp)).trans HS5.o;have s5':W6.cell? (bp,off+3+2)=some (.int .i64 5):=s5;have heq:∀ W:World,(binOp .eql 71 (.agg #[.int .i64 2,.int .i64 5,.int .i64 6]) (.agg #[.int .i64 2,.int .i64 5,.int .i64 6])).run prog W=.ok (.bool true) W:=fun W=>by kernel_rfl
 have B3:=aa hBF;clear hch ra hBF;go_wp2;go_ret;exact ⟨rfl,B3.o⟩
end Go.Proofs.YtjdfihglehfelaaGreatDoor
