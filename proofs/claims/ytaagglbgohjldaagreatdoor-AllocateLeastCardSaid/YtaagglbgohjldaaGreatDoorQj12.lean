/- Lemmas. -/
import Derived.Test.YtaagglbgohjldaaGreatDoorQj11
import Derived.LaidMore
import Derived.Stop.Joined
set_option maxRecDepth 100000
set_option maxHeartbeats 32000000
set_option linter.all false
open List renaming mem_singleton→AM,getElem?_eq_some_iff→AT
open Option renaming isSome_iff_exists→Kx
open Go.World renaming setCell→AF,alloc→AI,cell?→AN
namespace Go.Proofs.YtaagglbgohjldaaGreatDoor
open Go.Proofs.Tryz
open Go.RowKit Go.Maps Go.Shelf
attribute [local go_sem] Oper.semAt_some run_makeMap_plain
def ML(r:aY)(l:List (Nat × (Int × Int))):Int × Int × Int × Int:=if r.Gc<=hvN r l then(0,0,0,12) else(if r.Gg=1 then 2 else 1,hvN r l,r.Gc,0)
def TaQ(x0:Int)(x1:Int)(x2:Int):Tab #[.int .i64 x0,.int .i64 x1,.int .i64 x2]:=⟨⟩
def Od(g:af)(r:aY)(w:World)(e:Ending)(w':World):Prop :=
 ∃xs,tK g r xs/\xs.length=g.Gb.length/\e=.returned (.tuple #[.agg (TaQ ((ML r (gW xs)).1) ((ML r (gW xs)).2.1) ((ML r (gW xs)).2.2.1)),.int .i64 (ML r (gW xs)).2.2.2])/\Below w.1.size w w'
def xO:Code->Bool
 |.rangeFunc _ _ _ _=>true
 |.seq a b=>xO a||xO b
 |.block _ c=>xO c
 |.loop c=>xO c
 |.scope c=>xO c
 |.cond _ a b=>xO a||xO b
 |_=>false
def uz:Code->Option Code
 |.seq a b=>if xO a then(match uz a with
   |some c=>some (.seq c b)
   |none=>some b) else uz b
 |.block _ c=>uz c
 |.scope c=>uz c
 |_=>none
noncomputable def ND(f:Func):Code:=((f.body.bind uz).getD .skip)
def TaJ :Tab #[.int .i64 0,.int .i64 0,.int .i64 0]:=⟨⟩
def Tew{p:Prop}(h:p:=by simp[results,Tryz.results47,go_sem,a0,a1,a2]):p:=h
def Ta9{p:Prop}(h:p:=by
 rw[aw hc]at Zw;have hd:decide (hv ≥ r.Gc)=true:=eA hc;clear hc;go_wp2;obtain⟨f1,f2,f3⟩:=Zw.o (0) (0) (0) (12) _ rfl;refine⟨Tc2,.inl ⟨_,_,rfl,run_takeDeferred f3,?_⟩⟩;have a0:=aZ f2 0 _ rfl;have a1:=aZ f2 1 _ rfl;have a2:=aZ f2 2 _ rfl;exact⟨.tuple #[.agg #[.int .i64 (0),.int .i64 (0),.int .i64 (0)],.int .i64 (12)],Tew,f1⟩):p:=h
def NM(R:Ending->World->Prop){c0 c1 c2 c3 c5 c7 c9 c10 TO W0 St Rr RE RK SO Se Sf To Wg aE Wr ZD UP US ab ao fa dj dq eS fs gE ff fi fb gn iS mx qS qe nF o4 oE oR qk oS pe ph pr pt qv rl rm rn sd sh ta zd zp aD aF aG aH aI aJ aK aL aM aN aO aP aQ aR aS aT aU aV aW aX b8 ba bb bd be bf bg bi bj bk bl bm bp bq bs bu:Value}(g:af)(a:bN)(r:aY)(px:Option Addr)(cx:Nat)(xs:List (List (Int × Int)))(b2 b6 D:Nat)(W:World)(hv:Int)(hq:uy r)(au:r.Gi*r.Gh=1)(ht:W.1[b6]?=some (.cells (Taf g a r xs.length px cx) 97 (0,0)))(hx:W.1[b6+1]?=some (.cells #[.int .i64 0,hv,.int .i64 r.Gc] 105 (0,0)))(hr:W.1[b2]?=some (.cells TaJ 105 (0,0)))(hD:W.1[D]?=some (.deferred (some [])))(hne:b2≠b6+1)(ah:D≠b2)(av:D≠b6+1)
  (HK:Hid (∀(WF:World) (kk hh nn ee:Int),(kk,hh,nn,ee)=(if r.Gc<=hv then(0,0,0,12) else(if r.Gg=1 then 2 else 1,hv,r.Gc,0))->WF.1[b2]?=some (.cells (TaQ kk hh nn) 105 (0,0))->(∀B,B<=b2->B<=b6+1->B<=D->B<=W.1.size->Below B W WF)->R (.returned (.tuple #[.agg (TaQ kk hh nn),.int .i64 ee])) WF)) :
  (ND Tryz.f47).wp prog (bodyPostM Fence.wide 3 prog Tryz.f47 R) ⟨#[c0,c1,c2,c3,.pointer (some b2),c5,.pointer (some b6),c7,.pointer (some (Tac (b6+1) 0)),c9,c10,TO,W0,St,Rr,RE,RK,SO,Se,Sf,To,Wg,aE,Wr,ZD,UP,US,ab,ao,fa,dj,dq,eS,fs,gE,ff,fi,fb,gn,iS,mx,qS,qe,nF,o4,oE,oR,qk,oS,pe,ph,pr,pt,qv,rl,rm,rn,sd,sh,ta,zd,zp,aD,aF,aG,aH,aI,aJ,aK,aL,aM,aN,aO,aP,aQ,aR,aS,aT,aU,aV,aW,aX,b8,ba,bb,bd,be,bf,bg,bi,bj,bk,bl,bm,bp,bq,bs,bu],[{ target:=.collected D,args:=#[] }]⟩ W:=by
 conv=>arg 2;whnf
 have ak:=aa fun W=>Li g a r (.slice px xs.length cx) W hq;rw[Mo au]at ak;have ay:=iX hD;have a8:=ae W (.cells #[.int .i64 1,.int .i64 2,.int .i64 3] 146);have az:=aa (b9 W (.cells #[.int .i64 1,.int .i64 2,.int .i64 3] 146));have aA:=aa a8;replace hx:=aa hx;replace hr:=aa hr;replace hD:=aa hD;have tL:=aZ ((a8.block _ (aq ht)).trans ht);obtain⟨t0,t1,t2,t3,t4,t5,t6,t7,t8,t9,bz,bC⟩:=IE tL;have bD:=tL 12 _ rfl;have bE:=tL 13 _ rfl;have bF:=tL 14 _ rfl;have bG:=tL 15 _ rfl;have bH:=tL 16 _ rfl;clear tL a8 ht au
 go_wp2_with fail;clear t0 t1 t2 t3 t4 t5 t6 t7 t8 t9 bz bC bD bE bF bG bH;refine(ak.o _).mono ?_;rintro e a5 ⟨rfl,a9⟩;have ai:=Zbl aA a9;have am:=Zbk a9 az;have a7:=Zbk ai.o hx;have ag:=Zbk ai.o hr;have aj:=aa ((ai.o.block _ ay).trans hD.o);clear a9 aA az hx hr hD ak;have aB:∀(kk hh nn ee:Int) (k0:Value),(kk,hh,nn,ee)=(if r.Gc<=hv then(0,0,0,12) else(if r.Gg=1 then 2 else 1,hv,r.Gc,0))->R (.returned (.tuple #[.agg (TaQ kk hh nn),.int .i64 ee])) (((((a5.setCell (Tac (b6+1) 0) k0).setCell b2 (.int .i64 kk)).setCell (Tac b2 1) (.int .i64 hh)).setCell (Tac b2 2) (.int .i64 nn)).putObj D (.deferred none)) /\
   (((((a5.setCell (Tac (b6+1) 0) k0).setCell b2 (.int .i64 kk)).setCell (Tac b2 1) (.int .i64 hh)).setCell (Tac b2 2) (.int .i64 nn)).putObj D (.deferred none)).1[b2]?=some (.cells (TaQ kk hh nn) 105 (0,0)) /\
   ((((a5.setCell (Tac (b6+1) 0) k0).setCell b2 (.int .i64 kk)).setCell (Tac b2 1) (.int .i64 hh)).setCell (Tac b2 2) (.int .i64 nn)).1[D]?=some (.deferred (some [])):=fun kk hh nn ee k0 he=>by
  have hk:((((a5.setCell (Tac (b6+1) 0) k0).setCell b2 (.int .i64 kk)).setCell (Tac b2 1) (.int .i64 hh)).setCell (Tac b2 2) (.int .i64 nn)).1[D]?=some (.deferred (some [])):=(bw _ _ _ _ ah).trans ((bw _ _ _ _ ah).trans ((bw _ _ _ _ ah).trans ((bw _ _ _ _ av).trans aj.o)));have hb:((((a5.setCell (Tac (b6+1) 0) k0).setCell b2 (.int .i64 kk)).setCell (Tac b2 1) (.int .i64 hh)).setCell (Tac b2 2) (.int .i64 nn)).1[b2]?=some (.cells (TaQ kk hh nn) 105 (0,0)):=block_setCell (cs:=#[_,_,_]) (i:=2) _ (block_setCell (cs:=#[_,_,_]) (i:=1) _ (block_setCell (cs:=#[_,_,_]) (i:=0) _ ((bw _ _ _ _ hne).trans ag.o)));have aC:(((((a5.setCell (Tac (b6+1) 0) k0).setCell b2 (.int .i64 kk)).setCell (Tac b2 1) (.int .i64 hh)).setCell (Tac b2 2) (.int .i64 nn)).putObj D (.deferred none)).1[b2]?=_:=((grownBy_putObj' _ D _).block _ (aq hb) (fun q=>by injection q with q;exact ah q.symm)).trans hb;refine⟨HK.o _ kk hh nn ee he aC fun B q1 q2 q3 q4=>?_,aC,hk⟩;have PD:Below B W ((((a5.setCell (Tac (b6+1) 0) k0).setCell b2 (.int .i64 kk)).setCell (Tac b2 1) (.int .i64 hh)).setCell (Tac b2 2) (.int .i64 nn)) :=
   ((((ai.o.mono q4).setCell (p:=⟨b6+1,0,none⟩) q2 _).setCell (p:=b2) q1 _).setCell (p:=⟨b2,1,none⟩) q1 _).setCell (p:=⟨b2,2,none⟩) q1 _
  exact PD.grown (grownBy_putObj' _ D _) (by have:=PD.size;omega) (fun k e=>by injection e with e;omega)
 have Zw:=aa aB;clear aB;have i0:=aZ am.o 0 _ rfl;have i1:=aZ am.o 1 _ rfl;have x0:=aZ a7.o 0 _ rfl;have x1:=aZ a7.o 1 _ rfl;have x2:=aZ a7.o 2 _ rfl;have xf:=sK a7.o;have y0:=fun V:Value=>aZ (block_setCell (cs:=#[.int .i64 0,hv,.int .i64 r.Gc]) (i:=0) V a7.o) 0 _ rfl;have y1:=fun V:Value=>aZ (block_setCell (cs:=#[.int .i64 0,hv,.int .i64 r.Gc]) (i:=0) V a7.o) 1 _ rfl;have y2:=fun V:Value=>aZ (block_setCell (cs:=#[.int .i64 0,hv,.int .i64 r.Gc]) (i:=0) V a7.o) 2 _ rfl;have z0:=fun V:Value=>aZ ((bw a5 ⟨b6+1,0,none⟩ V _ hne).trans ag.o) 0 _ rfl;have z1:=fun V:Value=>aZ ((bw a5 ⟨b6+1,0,none⟩ V _ hne).trans ag.o) 1 _ rfl;have z2:=fun V:Value=>aZ ((bw a5 ⟨b6+1,0,none⟩ V _ hne).trans ag.o) 2 _ rfl;have zf:=fun(V:Value) (i:Nat)=>sK ((bw a5 ⟨b6+1,0,none⟩ V _ hne).trans ag.o) i;clear a7 ag am aj ai ay ah av
 by_cases hp:r.Gg=1
 ·rw[aw hp]at Zw;rw[aw hp];clear hp;by_cases hc:r.Gc<=hv
  ·exact Ta9
  rw[bh hc]at Zw;have hd:decide (hv ≥ r.Gc)=false:=cN hc;clear hc;go_wp2;obtain⟨f1,f2,f3⟩:=Zw.o (2) (hv) (r.Gc) (0) _ rfl;refine⟨Tc2,.inl ⟨_,_,rfl,run_takeDeferred f3,?_⟩⟩;have a0:=aZ f2 0 _ rfl;have a1:=aZ f2 1 _ rfl;have a2:=aZ f2 2 _ rfl;exact⟨.tuple #[.agg (TaQ (2) (hv) (r.Gc)),.int .i64 (0)],Tew,f1⟩
 rw[bh hp]at Zw;rw[bh hp];clear hp;by_cases hc:r.Gc<=hv
 ·exact Ta9
 rw[bh hc]at Zw;have hd:decide (hv ≥ r.Gc)=false:=cN hc;clear hc;go_wp2;obtain⟨f1,f2,f3⟩:=Zw.o (1) (hv) (r.Gc) (0) _ rfl;refine⟨Tc2,.inl ⟨_,_,rfl,run_takeDeferred f3,?_⟩⟩;have a0:=aZ f2 0 _ rfl;have a1:=aZ f2 1 _ rfl;have a2:=aZ f2 2 _ rfl;exact⟨.tuple #[.agg (TaQ (1) (hv) (r.Gc)),.int .i64 (0)],Tew,f1⟩
def LZ{ok:Nat->Prop}(g:af)(a:bN)(r:aY)(w:World)(hg:dN ok w g a)(aH:GOk g)(hr:dK r)(hS:AW w)(Mu:kP g r=0)(aI:r.Gi*r.Gh=1) :
  Calls prog 47 #[.agg (Tad g a),.agg (Tal r)] w (Od g r w):=by
 refine callsIn_wide (n:=3) |>.1 ?_;refine callsIn_of_wp_marks func47 rfl trivial ?_ rfl;simp only[ntmps47,List.size_toArray,cS,Ox,Nat.reduceAdd,Nat.reduceSub,Array.replicate_succ,Array.replicate_zero,List.push_toArray,List.append_toArray,List.nil_append,List.cons_append];refine wpIn_wide.2 ?_;have hA1:=ae w (.cells (Tad g a) 31);have RW:=b9 w (.cells (Tad g a) 31);generalize R0:w.alloc (.cells (Tad g a) 31)=W1 at *;have hA2:=ae W1 (.cells (Tal r) 34);have kc:=b9 W1 (.cells (Tal r) 34);have On:W1.1.size=w.1.size+1:=by rw[<- R0];exact cW ..
 generalize aq:W1.alloc (.cells (Tal r) 34)=W2 at *;have hA3:=ae W2 (.cells TaJ 105);have aJ:=b9 W2 (.cells TaJ 105);have RC:W2.1.size=w.1.size+2:=by rw[<- aq,cW,On]
 generalize au:W2.alloc (.cells TaJ 105)=W3 at *;have bi:W3.1.size=w.1.size+3:=by rw[<- au,cW,RC]
 have HB:=aa (hA1.trans ((hA2.mono Tc1).trans (hA3.mono Tc1)));have aK:=aa ((hA3.block _ Tc1).trans ((hA2.block _ Tc1).trans RW));have Lz:=aa ((hA3.block _ Tc1).trans kc);have XO:=aa aJ;rw[On]at Lz;rw[RC]at XO;clear hA1 hA2 hA3 RW kc aJ;have gL:=aZ aK.o;obtain⟨g0,g1,g2,g3,g4,g5,g6,g7,g8⟩:=xr gL;have qL:=aZ Lz.o;obtain⟨q0,q1,q2,q3,q4,q5,q6⟩:=se qL;clear gL qL;have HP:=aa (xY g a r W3 (hg.mv (Mv.of HB.o)) aH hr (hS.below HB.o));have Zi:=aa hg.Gb;clear hg hS;have HPE:=aa Mu;have hq:=uy.of Mu;have aL:(mchk g).2=0:=by
  unfold kP at Mu;split at Mu
  ·assumption
  rename_i hm;exact absurd Mu hm
 have aT:=aa (Fb aH.gi aL);clear aL Mu;go_wp2_with fail;clear g0 g1 g2 g3 g4 g5 g6 g7 g8 q0 q1 q2 q3 q4 q5 q6
 try simp only[R0,aq,au]
 clear R0 aq au;refine HP.o.mono ?_;clear HP;intro e w8 hp;obtain⟨xv,xs,rfl,OA,Zs,vh,ak⟩:=hp;rw[HPE.o];rw[aw HPE.o]at vh;have Ix:=aa (HB.o.trans (ak.mono Tc1));obtain⟨px,cx,rfl,aU,aV⟩:=OA.cap;have PW:=aa OA;have aM:=aa Zs;have HXL:=aa vh;have yi:=aa (tK.runs aT.o aM.o HXL.o);have aW:=aa ((ak.block _ Tc1).trans XO.o);have bj:w.1.size+3<=w8.1.size:=by have:=ak.size;omega
 clear ak OA Zs vh aK Lz HB XO;have aN:=ae w8 (.cells (Taf g a r xs.length px cx) 97);have am:=b9 w8 (.cells (Taf g a r xs.length px cx) 97);generalize aX:w8.alloc (.cells (Taf g a r xs.length px cx) 97)=W9 at *;have aO:W9.1.size=w8.1.size+1:=by rw[<- aX];exact cW ..
 have ab:=ae W9 (.cells #[.int .i64 0,.int .i64 0,.int .i64 r.Gc] 105);have ag:=b9 W9 (.cells #[.int .i64 0,.int .i64 0,.int .i64 r.Gc] 105);generalize av:W9.alloc (.cells #[.int .i64 0,.int .i64 0,.int .i64 r.Gc] 105)=W10 at *;have ay:W10.1.size=w8.1.size+2:=by rw[<- av,cW,aO]
 have a5:=ae W10 (.map #[] 0);generalize az:W10.alloc (.map #[] 0)=W11 at *;have aj:W11.1.size=w8.1.size+3:=by rw[<- az,cW,ay]
 have a7:=ae W11 (.cells #[.map none] 120);have ah:=b9 W11 (.cells #[.map none] 120);generalize aA:W11.alloc (.cells #[.map none] 120)=W12 at *;have aB:W12.1.size=w8.1.size+4:=by rw[<- aA,cW,aj]
 rw[aO]at ag;rw[aj]at ah;have aP:=aa (aN.trans ((ab.mono Tc1).trans ((a5.mono Tc1).trans (a7.mono Tc1))));have aQ:=aa ((a7.block _ Tc1).trans ((a5.block _ Tc1).trans ((ab.block _ Tc1).trans am)));have aR:=aa ((a7.block _ Tc1).trans ((a5.block _ Tc1).trans ag));have Ta:=aa ah;have tL:=aZ am;have aC:=aZ am 11 _ rfl;have m0:=aZ Ta.o 0 _ rfl;have mf:=sK Ta.o 0;clear aN ab a5 a7 am ag ah tL;go_upto_region 6 with(fail);have Rn:∀k,k≠w8.1.size+3->(W12.setCell (Tac (w8.1.size+3) 0) (.map (some (w8.1.size+2)))).1[k]?=W12.1[k]?:=fun k e=>bw _ _ _ _ e;have aD:=aa ((Rn _ Tc1).trans aQ.o);have aS:=aa ((Rn _ Tc1).trans aR.o);have WX:=aa (aP.o.setCell (p:=⟨w8.1.size+3,0,none⟩) (by show w8.1.size<=w8.1.size+3;omega) (.map (some (w8.1.size+2))));have ai:(W12.setCell (Tac (w8.1.size+3) 0) (.map (some (w8.1.size+2)))).1.size=w8.1.size+4:=by simp[AF,aB]
 clear Rn aC m0 mf aQ aR Ta aP;generalize aE:AF W12 _ _=W13 at *;clear aE;have tL:=aZ aD.o;obtain⟨t0,t1,t2,t3,t4,t5,t6,t7,t8,t9,b8,aC⟩:=IE tL;have ba:=tL 12 _ rfl;have bb:=tL 13 _ rfl;have bd:=tL 14 _ rfl;have be:=tL 15 _ rfl;have bf:=tL 16 _ rfl;clear tL;go_wp2_with fail;clear t0 t1 t2 t3 t4 t5 t6 t7 t8 t9 b8 aC ba bb bd be bf;refine(Lh g a r _ W13).mono ?_;rintro e bl ⟨rfl,rfl⟩;have a8:=ae W13 (.cells (Taf g a r xs.length px cx) 97);have a9:=b9 W13 (.cells (Taf g a r xs.length px cx) 97);have aF:(W13.alloc (.cells (Taf g a r xs.length px cx) 97)).1.size=w8.1.size+5:=by rw[cW,ai]
 rw[ai]at a9;have ao:=aa (WX.o.trans (a8.mono Tc1));have bg:=aa ((a8.block _ Tc1).trans aD.o);have bh:=aa ((a8.block _ Tc1).trans aS.o);replace a9:=aa a9;clear a8 aD aS WX;rw[ai];generalize aG:AI W13 _=W14 at *;clear aG;go_wp2;refine Nk _ g a r px cx w8.1.size xs W14 aF hq aI yi.o ⟨aU,aV⟩ ((PW.o.runs (bk _)).below ao.o) a9.o bg.o bh.o (aa ?_);intro D W h1 h2 h3 h4 h5 hK;rename_i K0 hK0;refine hK0 _ _ ?_;refine NM _ g a r px cx xs _ _ D W _ hq aI h2 h1 ((h3.block _ Tc1).trans ((ao.o.block _ Tc1).trans aW.o)) hK Tc1 Tc1 Tc1 (aa ?_);intro WF kk hh nn ee he hbl PD;have hb:=PD w.1.size Tc1 Tc1 Tc1 (by have:=ao.o.size;omega);exact⟨xs,aM.o,HXL.o,by unfold ML;rw[<- he],Ix.o.trans ((ao.o.mono Tc1).trans ((h3.mono Tc1).trans hb))⟩
end Go.Proofs.YtaagglbgohjldaaGreatDoor
namespace Go.Proofs.YtaagglbgohjldaaGreatDoor
open Go.Proofs.Tryz
open Go.RowKit Go.Maps Go.Shelf
def Mj(b:Nat):bN:=⟨none,0,some ⟨b+1,0,none⟩,1,some ⟨b+5,0,none⟩,1,none,0⟩
def Nr(w:World)(e:Ending)(w':World):Prop:=e=.returned (.agg #[.string ⟨#[118,103]⟩,.int .u64 0,.int .i64 0,.int .i64 1,.int .i64 0,.slice none 0 0,.slice (some (Tac (w.1.size+1) 0)) 1 1,.slice (some (Tac (w.1.size+5) 0)) 1 1,.slice none 0 0])/\dN (fun _=>True) w' ku (Mj w.1.size)/\Below w.1.size w w'
def TaS(x0:Option Addr):Tab #[.string ⟨#[97]⟩,.int .u64 0,.bool false,.bool false,.slice none 0 0,.slice x0 1 1]:=⟨⟩
def TaF(x0:Option Addr):Tab #[.int .i64 0,.int .i64 3,.int .i64 1,.slice x0 1 1,.int .i64 0,.slice none 0 0,.string ⟨#[]⟩,.string ⟨#[]⟩,.int .i64 0,.int .i64 0,.int .i64 0]:=⟨⟩
def TaN :Tab #[.string ⟨#[112,118,48]⟩,.int .u64 1,.int .i64 0,.int .i64 10,.bool false,.bool false,.slice none 0 0]:=⟨⟩
def Ha(w:World):Calls prog 46 #[] w (Nr w):=by
 go_enter func46,ntmps46;have hA1:=ae w (.cells Tar 31);have RW:=b9 w (.cells Tar 31);generalize R0:w.alloc (.cells Tar 31)=W1 at *;have On:W1.1.size=w.1.size+1:=by rw[<- R0,cW]
 have hA2:=ae W1 (.cells TaN 51);have kc:=b9 W1 (.cells TaN 51);generalize aj:W1.alloc (.cells TaN 51)=W2 at *;have RC:W2.1.size=w.1.size+2:=by rw[<- aj,cW,On]
 have hA3:=ae W2 (.cells Tar 31);have a5:=b9 W2 (.cells Tar 31);generalize ak:W2.alloc (.cells Tar 31)=W3 at *;have a8:W3.1.size=w.1.size+3:=by rw[<- ak,cW,RC]
 rw[On]at kc;rw[RC]at a5;have a9:=hA1.trans ((hA2.mono Tc1).trans (hA3.mono Tc1));have q1:=(hA3.block _ Tc1).trans ((hA2.block _ Tc1).trans RW);have q2:=(hA3.block _ Tc1).trans kc;have z0:=aZ a5 0 _ rfl;have z1:=aZ a5 1 _ rfl;have z2:=aZ a5 2 _ rfl;have z3:=aZ a5 3 _ rfl;have z4:=aZ a5 4 _ rfl;have z5:=aZ a5 5 _ rfl;have z6:=aZ a5 6 _ rfl;have z7:=aZ a5 7 _ rfl;have z8:=aZ a5 8 _ rfl;have zf:=sK a5;have HQ:=aa (⟨q1,q2,a5,a9⟩:_/\_/\_/\_);clear hA1 hA2 hA3 RW kc a5 q1 q2 a9;go_upto_region 2 with(fail);clear R0 aj ak;clear z0 z1 z2 z3 z4 z5 z6 z7 z8 zf;obtain⟨q1,q2,a5,a9⟩:=HQ.o;have r3:(((((((((W3.setCell (Tac (w.1.size+2) 0) (.string ⟨#[118,103]⟩)).setCell (Tac (w.1.size+2) 1) (.int .u64 0)).setCell (Tac (w.1.size+2) 2) (.int .i64 0)).setCell (Tac (w.1.size+2) 3) (.int .i64 1)).setCell (Tac (w.1.size+2) 4) (.int .i64 0)).setCell (Tac (w.1.size+2) 5) (.slice none 0 0)).setCell (Tac (w.1.size+2) 6) (.slice (some (Tac (w.1.size+1) 0)) 1 1)).setCell (Tac (w.1.size+2) 7) (.slice none 0 0)).setCell (Tac (w.1.size+2) 8) (.slice none 0 0)).1[w.1.size+2]?=some (.cells #[.string ⟨#[118,103]⟩,.int .u64 0,.int .i64 0,.int .i64 1,.int .i64 0,.slice none 0 0,.slice (some (Tac (w.1.size+1) 0)) 1 1,.slice none 0 0,.slice none 0 0] 31 (0,0)):=block_setCell (cs:=#[_,_,_,_,_,_,_,_,_]) (i:=8) _ (block_setCell (cs:=#[_,_,_,_,_,_,_,_,_]) (i:=7) _ (block_setCell (cs:=#[_,_,_,_,_,_,_,_,_]) (i:=6) _ (block_setCell (cs:=#[_,_,_,_,_,_,_,_,_]) (i:=5) _ (block_setCell (cs:=#[_,_,_,_,_,_,_,_,_]) (i:=4) _ (block_setCell (cs:=#[_,_,_,_,_,_,_,_,_]) (i:=3) _ (block_setCell (cs:=#[_,_,_,_,_,_,_,_,_]) (i:=2) _ (block_setCell (cs:=#[_,_,_,_,_,_,_,_,_]) (i:=1) _ (block_setCell (cs:=#[_,_,_,_,_,_,_,_,_]) (i:=0) _ (a5)))))))));have ks:∀k,k≠w.1.size+2->(((((((((W3.setCell (Tac (w.1.size+2) 0) (.string ⟨#[118,103]⟩)).setCell (Tac (w.1.size+2) 1) (.int .u64 0)).setCell (Tac (w.1.size+2) 2) (.int .i64 0)).setCell (Tac (w.1.size+2) 3) (.int .i64 1)).setCell (Tac (w.1.size+2) 4) (.int .i64 0)).setCell (Tac (w.1.size+2) 5) (.slice none 0 0)).setCell (Tac (w.1.size+2) 6) (.slice (some (Tac (w.1.size+1) 0)) 1 1)).setCell (Tac (w.1.size+2) 7) (.slice none 0 0)).setCell (Tac (w.1.size+2) 8) (.slice none 0 0)).1[k]?=W3.1[k]?:=fun k e=>(bw _ _ _ _ e).trans ((bw _ _ _ _ e).trans ((bw _ _ _ _ e).trans ((bw _ _ _ _ e).trans ((bw _ _ _ _ e).trans ((bw _ _ _ _ e).trans ((bw _ _ _ _ e).trans ((bw _ _ _ _ e).trans ((bw _ _ _ _ e).trans (rfl)))))))));have Uc:Below w.1.size w (((((((((W3.setCell (Tac (w.1.size+2) 0) (.string ⟨#[118,103]⟩)).setCell (Tac (w.1.size+2) 1) (.int .u64 0)).setCell (Tac (w.1.size+2) 2) (.int .i64 0)).setCell (Tac (w.1.size+2) 3) (.int .i64 1)).setCell (Tac (w.1.size+2) 4) (.int .i64 0)).setCell (Tac (w.1.size+2) 5) (.slice none 0 0)).setCell (Tac (w.1.size+2) 6) (.slice (some (Tac (w.1.size+1) 0)) 1 1)).setCell (Tac (w.1.size+2) 7) (.slice none 0 0)).setCell (Tac (w.1.size+2) 8) (.slice none 0 0)):=(((((((((a9).setCell (p:=⟨w.1.size+2,0,none⟩) Tdi _).setCell (p:=⟨w.1.size+2,1,none⟩) Tdi _).setCell (p:=⟨w.1.size+2,2,none⟩) Tdi _).setCell (p:=⟨w.1.size+2,3,none⟩) Tdi _).setCell (p:=⟨w.1.size+2,4,none⟩) Tdi _).setCell (p:=⟨w.1.size+2,5,none⟩) Tdi _).setCell (p:=⟨w.1.size+2,6,none⟩) Tdi _).setCell (p:=⟨w.1.size+2,7,none⟩) Tdi _).setCell (p:=⟨w.1.size+2,8,none⟩) Tdi _;have am:(((((((((W3.setCell (Tac (w.1.size+2) 0) (.string ⟨#[118,103]⟩)).setCell (Tac (w.1.size+2) 1) (.int .u64 0)).setCell (Tac (w.1.size+2) 2) (.int .i64 0)).setCell (Tac (w.1.size+2) 3) (.int .i64 1)).setCell (Tac (w.1.size+2) 4) (.int .i64 0)).setCell (Tac (w.1.size+2) 5) (.slice none 0 0)).setCell (Tac (w.1.size+2) 6) (.slice (some (Tac (w.1.size+1) 0)) 1 1)).setCell (Tac (w.1.size+2) 7) (.slice none 0 0)).setCell (Tac (w.1.size+2) 8) (.slice none 0 0)).1.size=w.1.size+3:=by simp[AF,a8]
 have r1:=(ks _ Tc1).trans q1;have r2:=(ks _ Tc1).trans q2;clear ks q1 q2 a5 a9 HQ;generalize hV:AF (AF (AF (AF (AF (AF (AF (AF (AF W3 _ _) _ _) _ _) _ _) _ _) _ _) _ _) _ _) _ _=V3 at *;clear hV On RC a8;have a8:=am;clear am;have ao:=ae V3 (.cells #[false,.string ⟨#[112,118,48]⟩,.int .i64 2] 53);have af:=b9 V3 (.cells #[false,.string ⟨#[112,118,48]⟩,.int .i64 2] 53);generalize aq:V3.alloc (.cells #[false,.string ⟨#[112,118,48]⟩,.int .i64 2] 53)=W4 at *;have au:W4.1.size=w.1.size+4:=by rw[<- aq,cW,a8]
 have ag:=ae W4 (.cells (TaF (some ⟨w.1.size+3,0,none⟩)) 114);have ah:=b9 W4 (.cells (TaF (some ⟨w.1.size+3,0,none⟩)) 114);generalize av:W4.alloc (.cells (TaF (some ⟨w.1.size+3,0,none⟩)) 114)=W5 at *;have aw:W5.1.size=w.1.size+5:=by rw[<- av,cW,au]
 have ab:=ae W5 (.cells (TaS (some ⟨w.1.size+4,0,none⟩)) 68);have ai:=b9 W5 (.cells (TaS (some ⟨w.1.size+4,0,none⟩)) 68);generalize ay:W5.alloc (.cells (TaS (some ⟨w.1.size+4,0,none⟩)) 68)=W6 at *;have aA:W6.1.size=w.1.size+6:=by rw[<- ay,cW,aw]
 rw[a8]at af;rw[au]at ah;rw[aw]at ai;have a7:=(ao.mono (B':=w.1.size+3) Tc1).trans ((ag.mono Tc1).trans (ab.mono Tc1));have q1:=(a7.block _ Tc1).trans r1;have q2:=(a7.block _ Tc1).trans r2;have q3:=(a7.block _ Tc1).trans r3;have q4:=(ab.block _ Tc1).trans ((ag.block _ Tc1).trans af);have q5:=(ab.block _ Tc1).trans ah;have c7:=aZ q3 7 _ rfl;have cf:=sK q3;have Tq:=aa (Uc.trans (a7.mono Tc1));have HQ:=aa (⟨q1,q2,q3,q4,q5,ai⟩:_/\_/\_/\_/\_/\_);clear ao ag ab af ah ai q1 q2 q3 q4 q5 a7 Uc r1 r2 r3;go_upto_region 3 with(fail);clear aq av ay;obtain⟨q1,q2,q3,q4,q5,q6⟩:=HQ.o;have ks:∀(u:Value) k,k≠w.1.size+2->(W6.setCell (Tac (w.1.size+2) 7) u).1[k]?=W6.1[k]?:=fun u k e=>bw _ _ _ _ e;have r3:=block_setCell (i:=7) (.slice (some (Tac (w.1.size+5) 0)) 1 1) q3;have r1:=(ks (.slice (some (Tac (w.1.size+5) 0)) 1 1) _ Tc1).trans q1;have r2:=(ks (.slice (some (Tac (w.1.size+5) 0)) 1 1) _ Tc1).trans q2;have r4:=(ks (.slice (some (Tac (w.1.size+5) 0)) 1 1) _ Tc1).trans q4;have r5:=(ks (.slice (some (Tac (w.1.size+5) 0)) 1 1) _ Tc1).trans q5;have r6:=(ks (.slice (some (Tac (w.1.size+5) 0)) 1 1) _ Tc1).trans q6;have wk:=aa (Tq.o.setCell (p:=⟨w.1.size+2,7,none⟩) Tdi (.slice (some (Tac (w.1.size+5) 0)) 1 1));clear q1 q2 q3 q4 q5 q6 ks c7 cf;generalize az:AF W6 _ _=W7 at *;clear az;have g0:=aZ r3 0 _ rfl;have g1:=aZ r3 1 _ rfl;have g2:=aZ r3 2 _ rfl;have g3:=aZ r3 3 _ rfl;have g4:=aZ r3 4 _ rfl;have g5:=aZ r3 5 _ rfl;have g6:=aZ r3 6 _ rfl;have g7:=aZ r3 7 _ rfl;have g8:=aZ r3 8 _ rfl;have z0:=aZ r1 0 _ rfl;have z1:=aZ r1 1 _ rfl;have z2:=aZ r1 2 _ rfl;have z3:=aZ r1 3 _ rfl;have z4:=aZ r1 4 _ rfl;have z5:=aZ r1 5 _ rfl;have z6:=aZ r1 6 _ rfl;have z7:=aZ r1 7 _ rfl;have z8:=aZ r1 8 _ rfl;have zf:=sK r1;have hd:ck aO 7 (fun k=>k≠w.1.size) W7 [.slice (some (Tac (w.1.size+1) 0)) 1 1] ku.Gb:=ck.one (u:=[.string ⟨#[112,118,48]⟩,.int .u64 1,.int .i64 0,.int .i64 10,.bool false,.bool false,.slice none 0 0]) r2 Tc1 rfl ⟨_,rfl,ck.nil⟩;have ha:ck aQ 3 (fun k=>k≠w.1.size) W7 [.slice (some (Tac (w.1.size+3) 0)) 1 1] [⟨false,⟨#[112,118,48]⟩,2⟩]:=ck.one (u:=[.bool false,.string ⟨#[112,118,48]⟩,.int .i64 2]) r4 Tc1 rfl rfl;have hs:ck bC 11 (fun k=>k≠w.1.size) W7 [.slice (some (Tac (w.1.size+4) 0)) 1 1] NS.Gf:=ck.one (u:=[.int .i64 0,.int .i64 3,.int .i64 1,.slice (some (Tac (w.1.size+3) 0)) 1 1,.int .i64 0,.slice none 0 0,.string ⟨#[]⟩,.string ⟨#[]⟩,.int .i64 0,.int .i64 0,.int .i64 0]) r5 Tc1 rfl ⟨_,_,rfl,ha,ck.nil⟩;have hv:ck aN 6 (fun k=>k≠w.1.size) W7 [.slice (some (Tac (w.1.size+5) 0)) 1 1] ku.F9:=ck.one (u:=[.string ⟨#[97]⟩,.int .u64 0,.bool false,.bool false,.slice none 0 0,.slice (some (Tac (w.1.size+4) 0)) 1 1]) r6 Tc1 rfl ⟨_,_,rfl,ck.nil,hs⟩;have ux:Hid (dN (fun k=>k≠w.1.size) W7 ku (Mj w.1.size)):=aa ⟨ck.nil,hd,hv,ck.nil⟩;clear r1 r2 r3 r4 r5 r6 hd ha hs hv HQ Tq;go_wp2;refine eC (v:=.agg #[.string ⟨#[118,103]⟩,.int .u64 0,.int .i64 0,.int .i64 1,.int .i64 0,.slice none 0 0,.slice (some (Tac (w.1.size+1) 0)) 1 1,.slice (some (Tac (w.1.size+5) 0)) 1 1,.slice none 0 0]) (by simp[results,Tryz.results46,go_sem,z0,z1,z2,z3,z4,z5,z6,z7,z8]) rfl (show Nr w _ _ from⟨rfl,?_,?_⟩)
 ·refine ux.o.mv ⟨Tdd,fun k hk ho=>⟨trivial,?_⟩⟩;simp only[bw _ ⟨w.1.size,_,none⟩ _ k ho]
 have hL:∀(V:World) (o:Nat) (z:Value),Below w.1.size w V->Below w.1.size w (V.setCell ⟨w.1.size,o,none⟩ z):=fun V o z q=>q.setCell (p:=⟨w.1.size,o,none⟩) (bk _) z
 exact hL _ _ _ (hL _ _ _ (hL _ _ _ (hL _ _ _ (hL _ _ _ (hL _ _ _ (hL _ _ _ (hL _ _ _ (hL _ _ _ wk.o))))))))
attribute [local go_sem] Oper.semAt_some
noncomputable def rM(g:af)(r:aY)(xs:List (List (Int × Int))):List (List aR) × Bool :=
 if GZ r=1 then([((mq r.Gc (gW xs)).toList).map (arN g)],(mq r.Gc (gW xs)).isSome)
 else([((ni r.Gc (gW xs)).1).map (arN g)],decide ((ni r.Gc (gW xs)).2<=0))
noncomputable def wR(g:af)(r:aY)(xs:List (List (Int × Int))):Int:=if kP g r=0 then(if(rM g r xs).2=true then 0 else 14) else kP g r
def NH(g:af)(r:aY)(w:World)(e:Ending)(w':World):Prop :=
 ∃v xs,e=.returned (.tuple #[v,.int .i64 (wR g r xs)])/\Below w.1.size w w'/\tK g r xs/\(xs.length=if kP g r=0 then g.Gb.length else 0)/\(¬wR g r xs=0->v=.slice none 0 0)/\(wR g r xs=0->kZ w' w.1.size v (rM g r xs).1)
def Np{ok:Nat->Prop}(Q:Exit->Act->World->Prop)(c0 c1 c2 c3 c4 c5 c7 c9 c10 TO W0 St Rr RE RK SO Se Sf To Wg aE Wr ZD UP US ab ao fa dj dq eS fs gE ff fi fb:Value)(w:World)(g:af)(a:bN)(r:aY)(px:Option Addr)(cx:Nat)(xs:List (List (Int × Int)))(B Bt Bf:Nat)(hq:uy r)(a7:ck aO 7 ok w [.slice a.dp g.Gb.length a.dc] g.Gb)(sB:zb g.Gb.length xs)(OI:xs.length<=cx/\cx<=9223372036854775807)(OA:fH w B (.slice px xs.length cx) xs)
  (ht:w.1[Bt]?=some (.cells (Taf g a r xs.length px cx) 97 (0,0))) (hf:w.1[Bf]?=some (.cells #[.func (.func 42) #[.agg (Taf g a r xs.length px cx)] #[],.func (.func 43) #[.agg (Taf g a r xs.length px cx)] #[],.func (.func 44) #[.agg (Taf g a r xs.length px cx)] #[]] 101 (0,0))) (aB:r.Gi*r.Gh=1)
  (HK:Hid (∀(u27 u28 u29 ah u31 u32 u33 u34:Value) (v:Value) (W':World),kZ W' w.1.size v (rM g r xs).1->Below w.1.size w W'->Q .normal ⟨#[c0,c1,c2,c3,c4,c5,.pointer (some Bt),c7,.pointer (some Bf),v,.bool (rM g r xs).2,TO,W0,St,Rr,RE,RK,SO,Se,Sf,To,Wg,aE,Wr,ZD,UP,US,u27,u28,u29,ah,u31,u32,u33,u34,ff,fi,fb],[]⟩ W')) :
  (Ai Tryz.f12 5).wp prog Q ⟨#[c0,c1,c2,c3,c4,c5,.pointer (some Bt),c7,.pointer (some Bf),c9,c10,TO,W0,St,Rr,RE,RK,SO,Se,Sf,To,Wg,aE,Wr,ZD,UP,US,ab,ao,fa,dj,dq,eS,fs,gE,ff,fi,fb],[]⟩ w:=by
 conv=>arg 2;whnf
 have a8:=Li g a r (.slice px xs.length cx) w hq;obtain⟨i,hi,hi2⟩:∃i:Nat,GZ r=(i:Int)/\(i=0\/i=1):=by
  unfold GZ;rw[bh Tc1];split
  ·exact⟨1,rfl,.inr rfl⟩
  exact⟨0,rfl,.inl rfl⟩
 rw[hi]at a8;replace a8:=aa a8;have tL:=aZ ht;obtain⟨t0,t1,t2,t3,t4,t5,t6,t7,t8,t9,ai,aj⟩:=IE tL;have ak:=tL 12 _ rfl;have am:=tL 13 _ rfl;have au:=tL 14 _ rfl;have av:=tL 15 _ rfl;have ay:=tL 16 _ rfl;clear tL;replace hf:=aa hf;clear ht;replace OA:=aa OA;have Zi:=aa a7;clear a7;go_wp2_with fail;refine a8.o.mono ?_;rintro e a9 ⟨rfl,sE⟩;have hn:=(sE.block _ (aq hf.o)).trans hf.o;clear t0 t1 t2 t3 t4 t5 t6 t7 t8 t9 ai aj ak am au av ay a8;have q:∃Qj,a9.cell? (Bf,i)=some (.func (.func Qj) #[.agg (Taf g a r xs.length px cx)] #[])/\(∀(l:Array Value) (W:World),Sem.run prog (callFunc Qj l) W=.ok (.enter Qj l) W)/\Calls prog Qj #[.agg (Taf g a r xs.length px cx)] a9 (NV (rM g r xs).1 (rM g r xs).2 a9):=by
  have a7:=(ck.moves aO.moves).mv (Mv.of sE) Zi.o;have Um:=(OA.o.below sE).runs (bk _);rcases hi2 with rfl|rfl
  ·refine⟨42,cr hn _ _ rfl,fun l W=>by go_simp,?_⟩;rw[show rM g r xs=_ from bh (by rw[hi];decide)];exact Lm g a r px cx xs a9 hq a7 sB OI Um
  refine⟨43,cr hn _ _ rfl,fun l W=>by go_simp,?_⟩;rw[show rM g r xs=_ from aw hi];exact Ls g a r px cx xs a9 hq a7 sB OI Um
 obtain⟨Qj,f0,ag,hc⟩:=q;have aC:i<3:=by omega
 have Uy:=aa ag;have HC:=aa hc;replace sE:=aa sE;clear hn ag hc hi hi2 OA hf;go_wp2_with fail;rw[Uy.o];refine HC.o.mono ?_;rintro e az ⟨v,rfl,ho,sa⟩;have a5:=sE.o.size;have ae:=aa (ho.mono a5);have aA:=aa (sE.o.trans (sa.mono a5));clear ho sa HC f0;go_wp2;exact HK.o _ _ _ _ _ _ _ _ v az ae.o aA.o
def uj{ok:Nat->Prop}(g:af)(a:bN)(r:aY)(w:World)(hg:dN ok w g a)(aq:GOk g)(hr:dK r)(hS:AW w)(aC:r.Gi*r.Gh=1) :
  Calls prog 12 #[.agg (Tad g a),.agg (Tal r)] w (NH g r w):=by
 have hA1:=ae w (.cells (Tad g a) 31);have RW:=b9 w (.cells (Tad g a) 31);generalize R0:w.alloc (.cells (Tad g a) 31)=W1 at *;have hA2:=ae W1 (.cells (Tal r) 34);have kc:=b9 W1 (.cells (Tal r) 34);have On:W1.1.size=w.1.size+1:=by rw[<- R0];exact cW ..
 generalize ah:W1.alloc (.cells (Tal r) 34)=W2 at *;have RC:W2.1.size=w.1.size+2:=by rw[<- ah,cW,On]
 have HB:=aa (hA1.trans (hA2.mono Tc1));have au:=aa ((hA2.block _ Tc1).trans RW);have Lz:=aa kc;rw[On]at Lz;clear hA1 hA2 RW kc;have gL:=aZ au.o;obtain⟨g0,g1,g2,g3,g4,g5,g6,g7,g8⟩:=xr gL;have qL:=aZ Lz.o;obtain⟨q0,q1,q2,q3,q4,q5,q6⟩:=se qL;clear gL qL;have HP:=aa (xY g a r W2 (hg.mv (Mv.of HB.o)) aq hr (hS.below HB.o));have Zi:=aa hg.Gb;clear hg hS;go_enter func12,ntmps12
 go_wp2_with fail;clear g0 g1 g2 g3 g4 g5 g6 g7 g8 q0 q1 q2 q3 q4 q5 q6
 try simp only[R0,ah]
 clear R0 ah;refine HP.o.mono ?_;clear HP;intro e w8 hp;obtain⟨xv,xs,rfl,OA,Zs,vh,av⟩:=hp;have Ix:=Zbl HB av;obtain⟨px,cx,rfl,aD,aF⟩:=OA.cap;have PW:=aa OA;have ag:=aa Zs;replace vh:=aa vh;clear av OA Zs au Lz HB;have ai:=ae w8 (.cells (Taf g a r xs.length px cx) 97);have HN9:=aa (b9 w8 (.cells (Taf g a r xs.length px cx) 97));have J1:=Zbl Ix ai;have aG:=aa (PW.o.below ai);clear ai PW;have tL:=aZ HN9.o;obtain⟨t0,t1,t2,t3,t4,t5,t6,t7,t8,t9,aH,aI⟩:=IE tL;have aJ:=tL 12 _ rfl;have aK:=tL 13 _ rfl;have aL:=tL 14 _ rfl;have aM:=tL 15 _ rfl;have aN:=tL 16 _ rfl;clear tL;by_cases Mu:kP g r=0
 ·have hne:(kP g r != 0)=false:=by rw[Mu];rfl
  have a8:Hid (wR g r xs=if(rM g r xs).2=true then 0 else 14):=aa (aw Mu);have HPE:=aa Mu;rw[aw Mu]at vh;have hq:=uy.of Mu;have aj:(mchk g).2=0:=by
   unfold kP at Mu;split at Mu
   ·assumption
   rename_i hm;exact absurd Mu hm
  have aP:=(Dg aj).2.1;have yi:=aa (tK.runs (Fb aq.gi aj) ag.o vh.o);clear aj aP;rw[Mu]at hne;rw[Mu];clear Mu;have a5:=ae (w8.alloc (.cells (Taf g a r xs.length px cx) 97)) (.cells #[.func (.func 42) #[.agg (Taf g a r xs.length px cx)] #[],.func (.func 43) #[.agg (Taf g a r xs.length px cx)] #[],.func (.func 44) #[.agg (Taf g a r xs.length px cx)] #[]] 101);have ay:=aa (b9 (w8.alloc (.cells (Taf g a r xs.length px cx) 97)) (.cells #[.func (.func 42) #[.agg (Taf g a r xs.length px cx)] #[],.func (.func 43) #[.agg (Taf g a r xs.length px cx)] #[],.func (.func 44) #[.agg (Taf g a r xs.length px cx)] #[]] 101));have Ax:=Zbl J1 a5;have aQ:=aa (aG.o.below a5);have aR:=Zbk a5 HN9;clear a5;go_upto_region 5 with(fail);clear t0 t1 t2 t3 t4 t5 t6 t7 t8 t9 aH aI aJ aK aL aM aN;generalize ak:AI (AI w8 _) _=W10 at *;rw[cW]at ay;clear ak;have az:Hid (∀(Q:Exit->Act->World->Prop) (c0 c1 c2 c3 c4 c5 c7 c9 c10 TO W0 St Rr RE RK SO Se Sf To Wg aE Wr ZD UP US ab ao fa dj dq eS fs gE ff fi fb:Value),Hid (∀(u27 u28 u29 aA u31 u32 u33 u34:Value) (v:Value) (W':World),kZ W' W10.1.size v (rM g r xs).1->Below W10.1.size W10 W'->Q .normal ⟨#[c0,c1,c2,c3,c4,c5,.pointer (some w8.1.size),c7,.pointer (some (Tac (w8.1.size+1) 0)),v,.bool (rM g r xs).2,TO,W0,St,Rr,RE,RK,SO,Se,Sf,To,Wg,aE,Wr,ZD,UP,US,u27,u28,u29,aA,u31,u32,u33,u34,ff,fi,fb],[]⟩ W')->(Ai Tryz.f12 5).wp prog Q ⟨#[c0,c1,c2,c3,c4,c5,.pointer (some w8.1.size),c7,.pointer (some (Tac (w8.1.size+1) 0)),c9,c10,TO,W0,St,Rr,RE,RK,SO,Se,Sf,To,Wg,aE,Wr,ZD,UP,US,ab,ao,fa,dj,dq,eS,fs,gE,ff,fi,fb],[]⟩ W10):=aa (by
   intro Q c0 c1 c2 c3 c4 c5 c7 c9 c10 TO W0 St Rr RE RK SO Se Sf To Wg aE Wr ZD UP US ab ao fa dj dq eS fs gE ff fi fb HK;have aS:=(ck.moves aO.moves).mv (Mv.of Ax.o) Zi.o;exact Np (ok:=ok) Q c0 c1 c2 c3 c4 c5 c7 c9 c10 TO W0 St Rr RE RK SO Se Sf To Wg aE Wr ZD UP US ab ao fa dj dq eS fs gE ff fi fb W10 g a r px cx xs _ _ _ hq aS yi.o ⟨aD,aF⟩ aQ.o aR.o ay.o aC HK)
  have a7:=Ax.o.size;refine az.o _ _ _ _ _ _ _ _ _ _ _ _ _ _ _ _ _ _ _ _ _ _ _ _ _ _ _ _ _ _ _ _ _ _ _ _ _ (aa ?_);intro u27 u28 u29 aA u31 u32 u33 u34 v aT ho sa;obtain⟨pv,cv,rfl,-,-⟩:=ho.cap;have am:=aa (ho.mono a7);have aB:=aa (Ax.o.trans (sa.mono a7));clear ho sa az;cases hk:(rM g r xs).2 with
  |true =>
   have a9:Hid (wR g r xs=0):=aa (by rw[a8.o,hk];rfl);clear hk;go_wp2;go_ret2;exact(show NH g r w _ _ from⟨.slice pv _ cv,xs,by rw[a9.o];rfl,aB.o,ag.o,by rw[HPE.o];exact vh.o,fun h=>absurd a9.o h,fun _=>am.o⟩)
  |false =>
   have a9:Hid (wR g r xs=14):=aa (by rw[a8.o,hk];rfl);clear hk;go_wp2;go_ret2;exact(show NH g r w _ _ from⟨.slice none 0 0,xs,by rw[a9.o];rfl,aB.o,ag.o,by rw[HPE.o];exact vh.o,fun _=>rfl,fun h=>by rw[a9.o]at h;cases h⟩)
 have hne:(kP g r != 0)=true:=by simpa using Mu
 have a8:Hid (wR g r xs=kP g r):=aa (bh Mu);have HPE:=aa Mu;clear Mu;go_wp2;go_ret2;exact(show NH g r w _ _ from⟨.slice none 0 0,xs,by rw[a8.o];rfl,J1.o,ag.o,vh.o,fun _=>rfl,fun h=>absurd (a8.o.symm.trans h) HPE.o⟩)
end Go.Proofs.YtaagglbgohjldaaGreatDoor
namespace Go.Proofs.YtaagglbgohjldaaGreatDoor
open Go.Proofs.Tryz
open Go.RowKit Go.Maps Go.Shelf
def Ma:GIn ku:=by
 refine⟨⟨Tc4,⟨Tc4,fun s hs=>by cases hs⟩,Tc4,Tc4,Tc4,fun d hd=>?_,fun v hv=>?_,fun h hh=>(by cases hh)⟩,⟨Tc4,fun d hd=>?_,Tc4,fun v hv=>?_⟩,fun v hv s hs=>?_,fun v hv s hs=>?_⟩
 ·obtain rfl:=AM.1 hd;exact⟨Tc4,Tc4,fun s hs=>by cases hs⟩
 ·obtain rfl:=AM.1 hv;exact⟨Tc4,Tc4,fun s hs=>by cases hs⟩
 ·obtain rfl:=AM.1 hd;decide
 ·obtain rfl:=AM.1 hv;exact⟨Tc4,Tc4,fun s hs=>by obtain rfl:=AM.1 hs;decide⟩
 ·obtain rfl:=AM.1 hv;obtain rfl:=AM.1 hs;decide
 obtain rfl:=AM.1 hv;obtain rfl:=AM.1 hs;exact⟨Tc4,Tc4,fun x hx=>by obtain rfl:=AM.1 hx;decide,Tc4⟩
def Nu:dK JR:=⟨Tc4,Tc4,Tc4,Tc4,Tc4,Tc4,Tc4⟩
def Nq:dK LD:=⟨Tc4,Tc4,Tc4,Tc4,Tc4,Tc4,Tc4⟩
def NQ:List (List aR):=[[⟨false,⟨#[112,118,48]⟩,0⟩,⟨false,⟨#[112,118,48]⟩,5⟩]]
def LM:rM ku JR [[(0,2),(5,5)]]=(NQ,true):=by
 unfold rM;rw[bh Tc4];kernel_rfl
def ME:wR ku JR [[(0,2),(5,5)]]=0:=by
 unfold wR;rw[aw Nv,LM];rfl
def NA:ML LD (gW [[(0,2),(5,5)]])=(2,5,6,0):=by kernel_rfl
def wW(w:World)(hS:AW w) :
  Calls prog 13 #[] w fun e w'=>e=.returned (.bool true)/\Below w.1.size w w':=by
 replace hS:=aa hS;go_enter func13,ntmps13
 go_wp2_with fail;refine(Ha w).mono ?_;rintro e w1 ⟨rfl,ah,ab⟩;have cU:=aa ab;have HA:=aa (uj (ok:=fun _=>True) ku (Mj w.1.size) JR w1 ah ⟨Ma,(D6 LY).1⟩ Nu (hS.o.below ab) Tc4);clear ah ab;go_wp2_with fail;refine HA.o.mono ?_;clear HA;rintro e w2 ⟨v,xs,rfl,hb2,Uv,vh,-,gw⟩;rw[Nv,aw rfl]at vh;obtain rfl:=Mm NL Tc4 Uv vh;rw[ME]at gw ⊢;have ho:=gw rfl;rw[LM]at ho;obtain⟨pv,cv,rfl,-,-⟩:=ho.cap;obtain⟨b,u,hpb,-,-,Ry,af⟩:=ho.at (k:=0) rfl;subst hpb;have kf:=bF.rd (ok':=fun k=>k<w2.1.size) aQ.moves af Tc4 (fun k hk _=>hk) (fun k e=>(iC.ge af e).2);obtain⟨p0,c0,rfl,ao,aq⟩:=kf.cap;obtain⟨bp,off,us,rfl,au,-,-,eE,ON⟩:=kf.elem (k:=1) (x:=⟨false,⟨#[112,118,48]⟩,5⟩) rfl;obtain rfl:us=_:=eE;have ai:=ON 2 _ rfl;have hbl:=cP w2 _ Ry;have cm:=Zbl cU hb2;have av:=aa Ry;have ay:=aa ai;have aj:NQ.length=1:=rfl;rw[aj];clear ho gw Uv hb2 af vh kf ON ai Ry aj;go_wp2_with fail;refine(Ha w2).mono ?_;rintro e w3 ⟨rfl,ak,hb3⟩;have cJ:=Zbl cm hb3;have HR:=aa (LZ (ok:=fun _=>True) ku (Mj w2.1.size) LD w3 ak ⟨Ma,(D6 LY).1⟩ Nq (hS.o.below cJ.o) LY Tc4);replace hb3:=aa hb3;clear ak;go_wp2_with fail;refine HR.o.mono ?_;clear HR;rintro e w4 ⟨xs,Uv,vh,rfl,ag⟩;obtain rfl:=Mm NK Tc3 Uv vh;rw[NA];dsimp only;have am:=ae w4 (.cells TaJ 105);have a8:=b9 w4 (.cells TaJ 105);have az:=hb3.o.size;have aC:=ag.size;have a5:Below w2.1.size w2 (w4.alloc (.cells TaJ 105)):=hb3.o.trans ((ag.mono az).trans (am.mono Tc1));have eK:=Zbl cm a5;have aD:(w4.alloc (.cells TaJ 105)).1.size=w4.1.size+1:=cW ..;generalize aA:w4.alloc (.cells TaJ 105)=W5 at *;have z0:=aZ a8 0 _ rfl;have z1:=aZ a8 1 _ rfl;have z2:=aZ a8 2 _ rfl;have zf:=sK a8;have a7:(((W5.setCell w4.1.size (.int .i64 2)).setCell (Tac w4.1.size 1) (.int .i64 5)).setCell (Tac w4.1.size 2) (.int .i64 6)).1[w4.1.size]?=some (.cells #[.int .i64 2,.int .i64 5,.int .i64 6] 105 (0,0)):=block_setCell (cs:=#[_,_,_]) (i:=2) _ (block_setCell (cs:=#[_,_,_]) (i:=1) _ (block_setCell (cs:=#[_,_,_]) (i:=0) _ a8));have Rn:∀k,k<w2.1.size->(((W5.setCell w4.1.size (.int .i64 2)).setCell (Tac w4.1.size 1) (.int .i64 5)).setCell (Tac w4.1.size 2) (.int .i64 6)).1[k]?=w2.1[k]?:=fun k hk=>(bw _ _ _ _ (show k≠w4.1.size by omega)).trans ((bw _ _ _ _ (show k≠w4.1.size by omega)).trans ((bw _ _ _ _ (show k≠w4.1.size by omega)).trans (a5.block k hk)))
 have a9:Below w.1.size w (((W5.setCell w4.1.size (.int .i64 2)).setCell (Tac w4.1.size 1) (.int .i64 5)).setCell (Tac w4.1.size 2) (.int .i64 6)):=by
  have h0:=cm.o.size;exact((eK.o.setCell (p:=w4.1.size) (show w.1.size<=w4.1.size by omega) _).setCell (p:=⟨w4.1.size,1,none⟩) (show w.1.size<=w4.1.size by omega) _).setCell (p:=⟨w4.1.size,2,none⟩) (show w.1.size<=w4.1.size by omega) _
 have HF:=aa (⟨a7,Rn,a9⟩:_/\_/\_);clear a7 Rn a9 a8 am a5 eK ag Uv vh;go_upto_region 3 with(fail);clear z0 z1 z2 zf aA;obtain⟨a7,Rn,a9⟩:=HF.o;generalize aB:AF (AF (AF W5 _ _) _ _) _ _=W6 at *;clear aB HF;have x0:=aZ a7 0 _ rfl;have x1:=aZ a7 1 _ rfl;have x2:=aZ a7 2 _ rfl;have cu:=(cd (a:=b) (Rn b hbl)).trans av.o;have s5:=(cd (a:=⟨bp,off+1*3+2,none⟩) (Rn bp au)).trans ay.o;have aE:W6.cell? (bp,off+3+2)=some (.int .i64 5):=s5;have heq:∀W:World,(binOp .eql 105 (.agg #[.int .i64 2,.int .i64 5,.int .i64 6]) (.agg #[.int .i64 2,.int .i64 5,.int .i64 6])).run prog W=.ok (.bool true) W:=fun W=>by kernel_rfl
 replace a9:=aa a9;clear a7 Rn;go_wp2;go_ret;exact⟨rfl,a9.o⟩
def kZ.lone{w:World}{B:Nat}{p:Option Addr}{n c:Nat}{x:aR}(h:kZ w B (.slice p n c) [[x]]) :
  ∃b b2 off cx,p=some ⟨b,0,none⟩/\b<w.1.size/\w.cell? ⟨b,0,none⟩=some (.slice (some ⟨b2,off,none⟩) 1 cx)/\b2<w.1.size/\w.cell? ⟨b2,off+1,none⟩=some (.string x.on)/\w.cell? ⟨b2,off+2,none⟩=some (.int .i64 x.start):=by
 obtain⟨b,u,h1,_,h3,h4,h5⟩:=h.at (k:=0) (x:=[x]) rfl;have hr:=h5.rd (ok':=fun _=>True) aQ.moves Tc4 (fun _ _ _=>trivial) (fun _ _=>trivial);obtain⟨q,cx,rfl,_,_⟩:=hr.cap;obtain⟨b2,off,us,rfl,_,cX,_,eE,ON⟩:=hr.elem (k:=0) (x:=x) rfl;obtain rfl:us=_:=eE;have q1:=ON 1 _ rfl;have q2:=ON 2 _ rfl;rw[Nat.zero_mul,fg]at q1 q2;exact⟨b,b2,off,cx,h1,h3,h4,cX,q1,q2⟩
def jU(r:aY):aY:=⟨1,1,r.Gc,1,r.tag,r.near,r.sep⟩
def MW{r:aY}(h:dK r):dK (jU r):=⟨(show(-9223372036854775808:Int)<=1/\(1:Int)<=9223372036854775807 by omega),(show(-9223372036854775808:Int)<=1/\(1:Int)<=9223372036854775807 by omega),h.e,(show(-9223372036854775808:Int)<=1/\(1:Int)<=9223372036854775807 by omega),h.t,h.n,h.q⟩
def iw.least{w0 w:World}{Bg Bq:Nat}{g:af}{a:bN}{r:aY}(h:iw w0 Bg Bq g a r w)(hg:Bg<Bq)(hq:w0.1.size<Bq):iw w0 Bg Bq g a (jU r) (((w.setCell Bq (.int .i64 1)).setCell (Tac Bq 1) (.int .i64 1)).setCell (Tac Bq 3) (.int .i64 1)):=by
 have h1:dK ⟨1,r.Gh,r.Gc,r.Gg,r.tag,r.near,r.sep⟩:=⟨(show(-9223372036854775808:Int)<=1/\(1:Int)<=9223372036854775807 by omega),h.rq.s,h.rq.e,h.rq.p,h.rq.t,h.rq.n,h.rq.q⟩;have h2:dK ⟨1,1,r.Gc,r.Gg,r.tag,r.near,r.sep⟩:=⟨h1.l,(show(-9223372036854775808:Int)<=1/\(1:Int)<=9223372036854775807 by omega),h.rq.e,h.rq.p,h.rq.t,h.rq.n,h.rq.q⟩;exact((h.set ⟨1,r.Gh,r.Gc,r.Gg,r.tag,r.near,r.sep⟩ 0 (.int .i64 1) rfl h1 hg hq).set ⟨1,1,r.Gc,r.Gg,r.tag,r.near,r.sep⟩ 1 (.int .i64 1) rfl h2 hg hq).set (jU r) 3 (.int .i64 1) rfl (MW h.rq) hg hq
def Tci{p:Prop}(h:p:=by
 go_wp2;go_roundw;exact⟨m+1,Tc1,Tc5,HB.o⟩;simp[intOf];omega):p:=h
def TbX{p:Prop}(h:p:=by
 go_wp2;go_roundw;exact⟨m+1,t,Tc1,Tc5,rfl,HBD.o _,HT.o.1,Ty.o⟩;simp[intOf];omega):p:=h
def uR(l:List Int)(v:Value)(w:World)(hr:Hs w v l)(hl:∀x∈l,-9223372036854775808<=x/\x<=9223372036854775807)(hS:AW w) :
  Calls prog 4 #[v] w fun e w'=>e=.returned (.bool true)/\Below w.1.size w w':=by
 replace hr:=aa hr;replace hS:=aa hS;go_enter func4,ntmps4
 go_wp2_with fail;refine(ED l v w hr.o hl).mono ?_;rintro e w1 ⟨rfl,hs1,On,ag⟩;go_wp2_with fail;refine(Ca w.1.size w1 hs1).mono ?_;intro e w2 hG;obtain⟨g,a,rfl,aR,a7,hs2,hb2,RC⟩:=hG.open2 ag On;have Tt:=aa (hS.o.below hb2);clear hs1 On ag hG;have XT:=aa (⟨a7.gin,a7.mchk⟩:GOk g);have I3:=aa a7.ckIn;have bg:Hid ((mchk g).2=0):=aa a7.mchk;have aS:Hid (g.Gb.length<=4/\g.F9.length<=44):=aa ⟨a7.tame.dl,a7.tame.vl⟩;have RL:Hid (∀p∈pieces g.F9,0<=p.len/\p.len<=1000000):=aa (LH a7.tame.tame);clear a7;have bA:=ae w2 (.cells (Tad g a) 31);have o0:=aa (b9 w2 (.cells (Tad g a) 31));have ux:=aa (aR.lt.keep (cR.bl bA));have Zv:=aa (hs2.keep (w':=w2.alloc (.cells (Tad g a) 31)) fun i hi=>bA.block i Tc1);have cJ:=aa (hb2.trans (bA.mono hb2.size));have Tu:=aa (Tt.o.below bA);clear aR hs2 hb2 bA Tt;go_upto_region 3 with(fail);generalize bh:AI w2 _=W3 at *;generalize bi:w2.1.size=Bg at *;clear bh bi;have gL:=cr o0.o;obtain⟨g0,g1,g2,g3,g4,g5,g6,g7,g8⟩:=xr gL;clear gL;have CD:=aS.o.1;have mb:=aS.o.2;have SA:=aa (wX g a w.1.size W3 ((ck.moves aN.moves).mv ⟨bk _,fun b _ hb=>⟨hb.1,rfl⟩⟩ ux.o.F9) Tc1 (fun v hv=>(XT.o.gi.tx.vol v hv).1) Zv.o);go_wp2_with fail;clear g0 g1 g2 g3 g4 g5 g6 g7 g8;refine SA.o.mono ?_;rintro e w4 ⟨r,rfl,aU,aD,a5⟩;clear SA;have bH:=hS.o.1;have hA:=ae w4 (.cells (Tal r) 34);have hN:=b9 w4 (.cells (Tal r) 34);have ye:Bg≠w.1.size:=by omega
 have ah:Hid (iw w Bg w4.1.size g a r (w4.alloc (.cells (Tal r) 34))):=aa
  ⟨aD.keep fun i hi=>hA.block i (rr hi aD.lt),(cJ.o.trans (a5.below cJ.o.size (fun k e=>by omega))).trans (hA.mono (cA cJ.o.size a5.size)),(ux.o.keep a5).keep (cR.bl hA),
   (hA.block _ (cC (aq o0.o) a5.size)).trans ((a5.block _ (aq o0.o) ye).trans o0.o),hN,aU,(Tu.o.mod a5 Tc1).below hA⟩
 have aE:=a5.size;have kq:Bg<w4.1.size:=cC (aq o0.o) a5.size;clear hA hN aU aD a5 o0 ux Zv cJ Tu;unfold mO;go_upto_region 4 with(fail);generalize bm:AI w4 _=W5 at *;generalize PF:w4.1.size=Bq at *;clear bm PF;have bp:w.1.size<Bq:=by
  have:=ah.o.src.lt;have:=aE;omega
 have qL:=ah.o.qc;have q0:=qL 0 _ rfl;have q1:=qL 1 _ rfl;have q3:=qL 3 _ rfl;have qf:=ah.o.qf;clear qL;go_upto_region 5 with(fail);have a8:=aa (ah.o.least kq bp);clear q0 q1 q3 qf ah;generalize AF (AF (AF W5 _ _) _ _) _ _=W9 at *;have gL:=a8.o.gc;obtain⟨g0,g1,g2,g3,g4,g5,g6,g7,g8⟩:=xr gL;have qL:=a8.o.qc;obtain⟨q0,q1,q2,q3,q4,q5,q6⟩:=se qL;clear gL qL;have Ub:=aa (uj g a (jU r) W9 a8.o.gr XT.o a8.o.rq a8.o.sf rfl);go_wp2_with fail;clear g0 g1 g2 g3 g4 g5 g6 g7 g8 q0 q1 q2 q3 q4 q5 q6;refine Ub.o.mono ?_;clear Ub;rintro e w6 ⟨v1,xs,rfl,mw,Uv,vh,-,V8⟩;have HS6:=aa (a8.o.below mw);have bI:=aq HS6.o.qb;have bJ:=mw.size;clear mw a8;by_cases he:wR g (jU r) xs=0
 ·have hp:kP g (jU r)=0:=by
   unfold wR at he;split at he
   ·assumption
   exact he
  rw[aw hp]at vh;have aV:=uy.of hp;have hq:yZ g (jU r)=0:=by
   unfold kP at hp;rwa[aw bg.o]at hp
  have Tp:(rM g (jU r) xs).2=true:=by
   unfold wR at he;rw[aw hp]at he;split at he
   ·assumption
   cases he
  have aW:rM g (jU r) xs=([((mq r.Gc (gW xs)).toList).map (arN g)],(mq r.Gc (gW xs)).isSome):=by
   unfold rM;rw[aw (show GZ (jU r)=1 from rfl)];rfl
  have aB:=V8 he;rw[aW]at Tp aB;obtain⟨y,hy⟩:=Kx.1 Tp;rw[hy]at aB;have aF:Hid (kZ w6 W9.1.size v1 [[arN g y]]):=aa aB;have Xi:=aa (⟨Uv,vh,hy⟩:_/\_/\_);have XE:=aa aV;have HQ:=aa hq;rw[he];clear he hp Uv vh V8 aV hq Tp aW aB hy;go_upto_region 8 with(fail);have gL:=HS6.o.gc;obtain⟨g0,g1,g2,g3,g4,g5,g6,g7,g8⟩:=xr gL;have qL:=HS6.o.qc;obtain⟨q0,q1,q2,q3,q4,q5,q6⟩:=se qL;clear gL qL;have aX:=aa (A7 g a (jU r) w6 HS6.o.gr I3.o HS6.o.rq HQ.o (show ¬(1:Int)=2 by decide) (show ¬(1:Int)=3 by decide) RL.o);go_wp2_with fail;clear g0 g1 g2 g3 g4 g5 g6 g7 g8 q0 q1 q2 q3 q4 q5 q6;refine aX.o.mono ?_;clear aX;rintro e w8 ⟨yv,ys,rfl,SP,hyl,aY,ab⟩;have af:=aa (HS6.o.below ab);have ai:=aa (NW I3.o Xi.o.1 Xi.o.2.1 aY hyl Xi.o.2.2);have bq:=aa hyl;have Y8:=aa SP;obtain⟨pv,cv,rfl,_,_⟩:=aF.o.cap;obtain⟨b1,b2,o2,c2,rfl,ag,aZ,hb2,zc,b8⟩:=aF.o.lone;have ba:=aa ((ab.cell (p:=b1) ag).trans aZ);have bs:=aa ((ab.cell (p:=⟨b2,o2+1,none⟩) hb2).trans zc);have bu:=aa ((ab.cell (p:=⟨b2,o2+2,none⟩) hb2).trans b8);have bK:=ab.size;have aG:b1<w8.1.size:=by omega
  have ak:b2<w8.1.size:=by omega
  obtain⟨py,cy,rfl,_,_⟩:=SP.cap;clear ag hb2 aZ zc b8 ab SP hyl aY aF Xi HS6;have q1:=ba.o;generalize pD:(arN g y).on=nm at *;generalize hst:(arN g y).start=st at *;have bb:(g.Gb.getD y.1 gT).name=nm:=pD;have am:y.2.1=st:=hst;rw[bb,am]at ai;generalize y.2.2=n at *;clear pD hst bb am;have g6:=af.o.gc 6 _ rfl;go_upto_region 13 with(fail);clear q1 g6;obtain⟨i0,d0,y0,aH,bd,be,bf⟩:=ai.o.at_;obtain⟨k0,hk0⟩:=fc bf;have Vv:=aa (⟨aH,bd,be,hk0⟩:_/\_/\_/\_);have bw:i0<g.Gb.length:=(AT.1 aH).1;clear aH bd be bf hk0;go_loopw[10,11] (fun tv i wr=>∃(k:Nat) (t:Int),k<=g.Gb.length/\i=.int .i64 k/\tv=.int .i64 t/\Below w8.1.size w8 wr/\(t=0\/t=n)/\(i0<k->t=n)) (fun _ i _=>g.Gb.length-(intOf i).toNat)
  exact⟨0,0,cg _,rfl,rfl,bj _ _,.inl rfl,fun h=>absurd h Tc1⟩;obtain⟨k,t,hk,rfl,rfl,hB,ht,htn⟩:=hrel;have HB:=aa hB;clear hB;have HT:=aa (⟨ht,htn⟩:_/\_);clear ht htn;have Zv:=aa (af.o.below HB.o);have g6:=Zv.o.gc 6 _ rfl;have hyl:=bq.o;by_cases hlt:k<g.Gb.length
  ·obtain⟨d,hd⟩:=aj g.Gb k hlt;obtain⟨yk,a9⟩:=aj ys k Tc1;obtain⟨b3,o3,bL,ao,_,PV,_,Tr,au⟩:=af.o.gr.Gb.elem hd;obtain⟨Ym,rfl,_⟩:=Tr;obtain⟨b4,u4,aI,_,aJ,av,ay⟩:=Y8.o.at a9;obtain⟨p5,c5,rfl,bz,bC,az⟩:=ay.rd;have HD:=aa (⟨hd,a9⟩:_/\_);have bD:=aa (au 0 _ rfl);have aK:=aa av;have Wj:=aa az;subst aI;rw[ao]at g6;clear hd a9 au av az ay;have aL:decide ((k:Int)<(ys.length:Int))=true:=eA Tc1;have bE:decide ((k:Int)<(g.Gb.length:Int))=true:=eA Tc1;go_upto_region 16 with(fail);clear aL bE g6;go_loopw[10,12] (fun tv i wj=>∃(m:Nat) (t:Int),m<=yk.length/\i=.int .i64 m/\tv=.int .i64 t/\Below w8.1.size w8 wj/\(t=0\/t=n)/\(i0<k\/(i0=k/\k0<m)->t=n)) (fun _ i _=>yk.length-(intOf i).toNat)
   exact⟨0,t,cg _,rfl,rfl,HB.o,HT.o.1,fun h=>HT.o.2 Tc1⟩;clear HT HB Zv;obtain⟨m,t,hm,rfl,rfl,Y0,ht,htn⟩:=hrel;have HB:=aa Y0;clear Y0;have HT:=aa (⟨ht,htn⟩:_/\_);clear ht htn;have Zv:=aa (af.o.below HB.o);have g6:=Zv.o.gc 6 _ rfl;rw[ao]at g6;have u4:=(HB.o.cell (p:=⟨b4,k,none⟩) aJ).trans aK.o;by_cases hlt2:m<yk.length
   ·obtain⟨f,hf⟩:=aj yk m hlt2;obtain⟨b5,o5,hp5,hb5,aA⟩:=Wj.o Tc1;subst hp5;have aM:=aA.below HB.o hb5 m f hf;obtain⟨f0,f1⟩:=aM;have HF:=aa hf;have e3:=(HB.o.cell (p:=⟨b3,o3+k*7+0,none⟩) PV).trans bD.o;rw[fg]at e3;have q1:=(HB.o.cell (p:=b1) aG).trans ba.o;have q2:=(HB.o.cell (p:=⟨b2,o2+1,none⟩) ak).trans bs.o;have q3:=(HB.o.cell (p:=⟨b2,o2+2,none⟩) ak).trans bu.o;clear hf aA;have HBD:Hid (∀n',Below w8.1.size w8 (wr.drewN n')):=aa fun n'=>aT HB.o n'
    by_cases hen:d.name=nm
    ·have aC:(d.name.toList==nm.toList)=true:=by rw[hen];simp
     by_cases hes:f.1=st
     ·have aO:(f.1==st)=true:=by rw[hes];simp
      have Uy:Hid (f.2=n):=aa (ai.o.one k d yk f HD.o.1 HD.o.2 (ct HF.o) hen hes);clear hen hes;go_upto_region 18 with(fail);go_quiet (fail);clear aC aO e3 q1 q2 q3 g6;go_wp2;go_roundw
      exact⟨m+1,f.2,Tc1,Tc5,rfl,HBD.o _,.inr Uy.o,fun _=>Uy.o⟩;simp[intOf];omega
     have aO:(f.1==st)=false:=beq_eq_false_iff_ne.2 hes;have Ty:Hid (i0<k\/(i0=k/\k0<m+1)->t=n):=aa fun h=>HT.o.2 (by
      rcases h with h|⟨h,h2⟩
      ·exact .inl h
      refine .inr ⟨h,?_⟩;refine Decidable.byContradiction fun h3=>hes ?_;obtain rfl:k0=m:=by omega
      have:=Vv.o.2.1;rw[h,HD.o.2]at this;obtain rfl:=gj this;have:=Vv.o.2.2.2;rw[HF.o]at this;rw[gj this])
     clear hen hes;go_upto_region 18 with(fail);go_quiet (fail);clear aC aO e3 q1 q2 q3 g6;exact TbX
    have aC:=jI hen;have Ty:Hid (i0<k\/(i0=k/\k0<m+1)->t=n):=aa fun h=>HT.o.2 (by
     rcases h with h|⟨h,h2⟩
     ·exact .inl h
     refine absurd ?_ hen;have:=Vv.o.1;rw[h,HD.o.1]at this;rw[gj this];exact Vv.o.2.2.1)
    clear hen;go_upto_region 18 with(fail);go_quiet (fail);clear aC e3 q1 q2 q3 g6;exact TbX
   obtain rfl:m=yk.length:=by omega
   have Ty:Hid (i0<k+1->t=n):=aa fun h=>HT.o.2 (by
    by_cases h1:i0<k
    ·exact .inl h1
    obtain rfl:i0=k:=by omega
    refine .inr ⟨rfl,?_⟩;have:=Vv.o.2.1;rw[HD.o.2]at this;obtain rfl:=gj this;exact(AT.1 Vv.o.2.2.2).1)
   clear g6;go_wp2;go_roundw;exact⟨k+1,t,Tc1,Tc5,rfl,HB.o,HT.o.1,Ty.o⟩;simp[intOf];omega
  obtain rfl:k=g.Gb.length:=by omega
  obtain rfl:t=n:=HT.o.2 bw;have aL:decide ((g.Gb.length:Int)<(ys.length:Int))=false:=cN Tc1;clear g6;go_upto_region 21 with(fail);clear aL;have fy:=HB;generalize bF:wr=w9 at *;clear bF;go_loopw[13] (fun i wr=>∃k:Nat,k<=ys.length/\i=.int .i64 k/\Below w8.1.size w8 wr) (fun i _=>ys.length-(intOf i).toNat)
  exact⟨0,cg _,rfl,fy.o⟩;clear HT HB Zv fy;obtain⟨k,hk,rfl,hB⟩:=hrel;have HB:=aa hB;clear hB;have Zv:=aa (af.o.below HB.o);by_cases hlt:k<ys.length
  ·obtain⟨yk,a9⟩:=aj ys k hlt;obtain⟨b4,u4,aI,_,aJ,av,ay⟩:=Y8.o.at a9;obtain⟨p5,c5,rfl,bz,bC,az⟩:=ay.rd;have HD:=aa a9;have aK:=aa av;have Wj:=aa az;subst aI;clear a9 av az ay;go_upto_region 24 with(fail);go_loopw[14] (fun i wj=>∃m:Nat,m<=yk.length/\i=.int .i64 m/\Below w8.1.size w8 wj) (fun i _=>yk.length-(intOf i).toNat)
   exact⟨0,cg _,rfl,HB.o⟩;clear HB Zv;obtain⟨m,hm,rfl,hB⟩:=hrel;have HB:=aa hB;clear hB;have Zv:=aa (af.o.below HB.o);have q2:=Zv.o.qc 2 _ rfl;have u4:=(HB.o.cell (p:=⟨b4,k,none⟩) aJ).trans aK.o;by_cases hlt2:m<yk.length
   ·obtain⟨f,hf⟩:=aj yk m hlt2;obtain⟨b5,o5,hp5,hb5,aA⟩:=Wj.o Tc1;subst hp5;have aM:=aA.below HB.o hb5 m f hf;obtain⟨f0,f1⟩:=aM;have aP:=ai.o.low k yk f HD.o (ct hf);clear hf aA f0;by_cases h1:r.Gc<=f.2
    ·have h2:=aP h1;have hd1:decide (f.2 ≥ (jU r).Gc)=true:=eA h1;have hd2:decide (f.2<t)=false:=cN Tc1;clear aP h1 h2;exact Tci
    have hd1:decide (f.2 ≥ (jU r).Gc)=false:=cN h1;clear aP h1;exact Tci
   obtain rfl:m=yk.length:=by omega
   go_wp2;go_roundw;exact⟨k+1,Tc1,Tc5,HB.o⟩;simp[intOf];omega
  obtain rfl:k=ys.length:=by omega
  have q2:=Zv.o.qc 2 _ rfl;have hd1:decide (t ≥ (jU r).Gc)=true:=eA ai.o.le;have aQ:=aa (wW _ Zv.o.sf);have B3:=aa Zv.o.bl;go_upto_region 29 with(fail);go_wp2_with fail;refine aQ.o.mono ?_;rintro e bG ⟨rfl,sE⟩;have C7:=Zbl B3 sE;clear sE q2 hd1;go_wp2;go_ret;exact⟨rfl,C7.o⟩
 have bM:(wR g (jU r) xs != 0)=true:=by simpa using he
 clear he Uv vh;have aQ:=aa (wW _ HS6.o.sf);have B3:=aa HS6.o.bl;go_wp2_with fail;refine aQ.o.mono ?_;rintro e bG ⟨rfl,sE⟩;have C7:=Zbl B3 sE;clear sE;go_wp2;go_ret;exact⟨rfl,C7.o⟩
open Go.ChangeShapes Go.WideShapes Go.ChangeAt Go.WideMaps Go.WideElems
def nC{H : Type} : List (String × DataW H) := [("volumegroup/names.suffixes", Rows.laid_volumegroup_names_suffixes)]
def BU : prog.globalNamed "volumegroup/names.suffixes" = some 0 := by kernel_rfl
def BB:(prog.globals[0]?).map (·.type)=some 232:=by kernel_rfl
def Cj(os:Os)(args:Array Value):laidMetH prog nC ((World.doorLaid prog 400 os).forCall (fun _ _=>0) ⟨#[],args,[]⟩).memory :=
 laidMetH_of_parts3 (fuel:=8) (laidMet_of_run' 8 Tc3 Tc3) Tc3 Tc3
def vW{W:World}(h:laidMetH prog nC W):AW W:=by
 rw[MakeChecks.laidMetH_plain _ _ _ Tc3]at h;obtain⟨ps,⟨g0,t0,a8,f0,p0,q0,a5,a9,hv0,aa,_,_⟩,_,_⟩:=h;obtain rfl:=gj (BU.symm.trans a5);obtain rfl:=gj (BB.symm.trans a9);obtain⟨xs,m1,rfl,a7,Of,hn,Vh⟩:=DataW.trod_array underlying232 aa;have c1:prog.cellsOf 9=1:=by kernel_rfl
 have c5:prog.cellsOf 232=5:=by kernel_rfl
 simp only[Prod.mk.injEq,DataW.agg.injEq]at a7;rw[c5]at Of;have hx2:=a7.1;unfold Rows.laid_volumegroup_names_suffixes at hx2;injection hx2 with hx2;obtain⟨l⟩:=a8;have hl:l.length=5:=by simpa using Of
 have key:∀(i:Nat) (s:List UInt8),([] :: nV)[i]?=some s->l[i]?=some (.string ⟨s.toArray⟩):=fun i s hs=>by
  have hi:i<5:=by
   have:=(AT.1 hs).1;simpa[nV]using this
  have he:=Vh i hi;obtain⟨x,hx⟩:=aj xs i Tc1;rw[hx,c1]at he;obtain⟨t,e1,e2,_⟩:=DataW.trod_string underlying9 he;have QF:(xs.map (·.1))[i]?=some x.1:=by rw[rI,hx];rfl
  rw[<- hx2,e2]at QF;have h1:l[i]?=some (.string t):=by
   have:=fj (fun z:List Value=>z[0]?) e1;simpa[xF,pk]using this
  have h2:t.data.toList=s:=by
   rcases(show i=0\/i=1\/i=2\/i=3\/i=4 by omega)with rfl|rfl|rfl|rfl|rfl <;>
    (have e3:=gj hs;subst e3;simpa[Rows.laid_volumegroup_names_suffixes]using QF.symm)
  rw[h1,bytes_eta t,h2]
 have hlt:0<W.1.size:=by
  have:=World.var?_cell a5 hv0 0;have h0:=key 0 [] rfl;have hc:W.cell? (Tac 0 0)=some (.string ⟨#[]⟩):=by simpa[h0]using this
  exact Nat.pos_of_ne_zero fun e=>by simp[AN,xp (by omega:W.1.size<=0)]at hc
 refine⟨hlt,fun i s hs=>?_⟩;have:=World.var?_cell a5 hv0 i;rw[this];simpa using key i s hs
end Go.Proofs.YtaagglbgohjldaaGreatDoor
