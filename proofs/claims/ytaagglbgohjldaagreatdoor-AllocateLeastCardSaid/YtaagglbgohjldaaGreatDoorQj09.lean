/- Lemmas: PolE, MoJ, MoS, MoL, MoF, MoI, MoK, MoN, MoP, MoY, MoZ, MoC, PolAc. -/
import Derived.Test.YtaagglbgohjldaaGreatDoorQj08
set_option maxRecDepth 100000
set_option maxHeartbeats 32000000
set_option linter.all false
open List renaming all_eq_true→An,mem_range→EV,any_eq_false→GW
open Go.World renaming alloc→AI,cell?→AN,frozen?→BT
open Go.Value renaming bool→FG
namespace Go.Proofs.YtaagglbgohjldaaGreatDoor
open Go.Proofs.Tryz
open Go.RowKit Go.Maps Go.Shelf
variable {k:Nat}{g:af}
def AP(nm:ByteArray)(e:ByteArray × Int){x:List (Int × Int)}{r:Int × Int}(h:x[k]?=some r):su nm e (x.take (k+1))=su nm e (x.take k)++if e.1=nm/\r.1<=e.2/\e.2<r.1+r.2 then [(e.2,r.1+r.2-e.2)] else []:=by
 rw[take_snoc' x k r h];unfold su;rw[E0];congr 1
 by_cases c:e.1=nm/\r.1<=e.2/\e.2<r.1+r.2
 ·rw[aw c];simp[c]
 rw[bh c];rw[List.filterMap_cons,bh c];rfl
def BD(nm:ByteArray)(x:List (Int × Int)){E:List (ByteArray × Int)}{e:ByteArray × Int}(h:E[k]?=some e):mQ (E.take (k+1)) nm x=mQ (E.take k) nm x++su nm e x:=by
 rw[take_snoc' E k e h];simp[mQ]
def TbQ{p:Prop}(h:p:=by
 go_wp2;go_roundw;exact⟨j+1,Tc1,Tc5,by rw[fl.o];exact HOW4.o,ar2.o,eI.o⟩;simp[intOf];omega):p:=h
def yI{ok:Nat->Prop}(g:af)(a:bN)(vol dn:ByteArray)(x:List (Int × Int))(v3:Value)(w:World)(hr:ck aN 6 ok w [.slice a.vp g.F9.length a.vc] g.F9)(hz:JT g)(ht:qx g.F9)(CH:∀v∈g.F9,∀s∈v.Gf,fP s->∀a∈s.Ga,0<=a.start/\a.start<=1000000)
  (hx:xo w v3 x) (qu:∀p∈x,0<=p.1/\1<=p.2/\p.1+p.2<=1073741824) (vh:x.length<=30000) (Vh:(jE g vol).length<=10) :
  Calls prog 35 #[.agg (Tad g a),.string vol,.string dn,v3] w (zz w (Mem (mQ (jE g vol) dn x)) 300000):=by
 replace hr:=aa hr;have aE:=aa hx;obtain⟨p3,c3,rfl,aF,aG,hx3⟩:=hx;replace hx3:=aa hx3;replace qu:=aa qu;have rB:=aa (ae w (.cells (Tad g a) 31));have CN:=aa (b9 w (.cells (Tad g a) 31));have gL:=cr CN.o;go_enter func35,ntmps35
 go_upto_region 2 with(fail);generalize R0:AI w _=W1 at *;obtain⟨g0,g1,g2,g3,g4,g5,g6,g7,g8⟩:=xr gL;clear gL R0;have Sv:=aa (Cr (ok:=ok) g a vol W1 ((ck.moves aN.moves).mv (Mv.of rB.o) hr.o) hz ht CH);clear hz ht CH;go_wp2_with fail;clear g0 g1 g2 g3 g4 g5 g6 g7 g8;refine Sv.o.mono ?_;clear Sv;rintro e w2 ⟨ev,rfl,ah,hb2⟩;have cm:=Zbl rB hb2;have kf:ck aQ 3 (fun _=>True) w2 [ev] ((jE g vol).map fun x=>⟨false,x.1,x.2⟩):=bF.rd aQ.moves ah Tc4 (fun _ _ _=>trivial) (fun _ _=>trivial);clear ah hb2;generalize hE:jE g vol=E at *;replace hE:=aa hE;obtain⟨ep,ec,rfl,WH,aH⟩:=kf.cap;replace kf:=aa kf;rw[fW]at WH ⊢;have ao:=cm.o.size;have au:Hid (0<x.length->∃b off,p3=some ⟨b,off,none⟩/\b<w2.1.size/\ru w2 b off x):=aa fun h=>by
  obtain⟨b,off,e,hb,hc⟩:=hx3.o h;exact⟨b,off,e,Tc1,hc.below cm.o hb⟩
 have aI:x.length<=9223372036854775807:=by omega
 go_upto_region 3 with(fail);go_loopw[10,19] (fun lv i wr=>∃k:Nat,k<=E.length/\i=.int .i64 k/\bM wr w2.1.size lv (mQ (E.take k) dn x)/\Below w2.1.size w2 wr) (fun _ i _=>E.length-(intOf i).toNat)
 exact⟨0,cg _,rfl,bM.nil _ _,bj _ _⟩;obtain⟨k,hk,rfl,a5,hB⟩:=hrel;have HOW:=aa a5;clear a5;have HB:=aa hB;clear hB;have hbl:(mQ (E.take k) dn x).length<=300000:=by
  have h1:=Dj (E.take k) dn x;have h2:(E.take k).length*x.length<=10*30000:=ue (by rw[ey];omega) vh;omega
 by_cases hlt:k<E.length
 ·obtain⟨e,he⟩:=aj E k hlt;obtain⟨b,off,us,rfl,gR,cX,ez,eE,ON⟩:=kf.o.elem (k:=k) (x:=(⟨false,e.1,e.2⟩:aR)) (by rw[rI,he];rfl);obtain rfl:us=_:=eE;have cT:wr.1[b]?=w2.1[b]?:=HB.o.block b cX;obtain⟨q0,q1,q2⟩:=Mn cT ON;dsimp only at q1 q2;have QY:=aa (BD dn x he);have mA:=HB.o.size;clear he ON ez cT;have hA:=ae wr (.cells (Tau e.1 e.2) 53);have yb:=aa (b9 wr (.cells (Tau e.1 e.2) 53));have cJ:=aa (HB.o.trans (hA.mono mA));have a7:=aa (HOW.o.below hA);clear hA;go_upto_region 6 with(fail);clear q0 q1 q2;generalize av:AI wr _=W3 at *;generalize aJ:wr.1.size=Ba at *;clear av HB HOW;generalize ai:mQ (E.take k) dn x=L0 at *;replace ai:=aa ai;go_loopw[10,25] (fun lv i wi=>∃j:Nat,j<=x.length/\i=.int .i64 j/\bM wi w2.1.size lv (L0++su dn e (x.take j))/\wi.1[Ba]?=some (.cells (Tau e.1 e.2) 53 (0,0))/\Below w2.1.size w2 wi) (fun _ i _=>x.length-(intOf i).toNat)
  exact⟨0,cg _,rfl,by rw[iv,show su dn e []=[] from rfl,eM];exact a7.o,yb.o,cJ.o⟩;clear yb cJ a7;obtain⟨j,hj,rfl,a5,Sr,hB⟩:=hrel;have HOW:=aa a5;clear a5;have HB:=aa hB;clear hB;have yb:=aa Sr;clear Sr;have Sw:=HB.o.size;have Qu:=wT dn e (x.take j);rw[ey]at Qu;by_cases hlt2:j<x.length
  ·obtain⟨r,hr⟩:=aj x j hlt2;obtain⟨b4,ay,az,aA,ak⟩:=au.o Tc1;subst az;have hc:=ak.below HB.o aA j r hr;have x0:=hc.1;have x1:=hc.2;have fl:=aa (AP dn e hr);have sB:=qu.o r (ct hr);obtain⟨hr1,hr2,aK⟩:=sB;clear hc ak hr;have WI:=aq yb.o;have hA:=ae wr (.cells #[.int .i64 r.1,.int .i64 r.2] 55);have YZ:=aa (b9 wr (.cells #[.int .i64 r.1,.int .i64 r.2] 55));have eI:=aa (HB.o.trans (hA.mono Sw));have HOW4:=aa (HOW.o.below hA);have ar2:=aa ((hA.block _ WI).trans yb.o);clear hA;go_upto_region 8 with(fail);clear x0 x1;generalize aB:AI wr _=W5 at *;generalize Rz:wr.1.size=Br at *;clear aB HB HOW yb;have a1:=cr ar2.o 1 _ rfl;have a2:=cr ar2.o 2 _ rfl;have r0:=cr YZ.o 0 _ rfl;have r1:=cr YZ.o 1 _ rfl;have aL:IntKind.i64.wrap (r.1+r.2)=r.1+r.2:=dy _ Tc1;by_cases hen:e.1=dn
   ·have aC:(e.1.toList==dn.toList)=true:=by rw[hen];simp
    have Sv:=aa hen;clear hen;by_cases h1:r.1<=e.2
    ·by_cases h2:e.2<r.1+r.2
     ·rw[aw ⟨Sv.o,h1,h2⟩]at fl;have TL:IntKind.i64.wrap (r.1+r.2-e.2)=r.1+r.2-e.2:=dy _ Tc1;have WJ:=eI.o.size;go_wp2_with(at_builtin;refine jg rfl _ _ rfl w2.1.size _ (L0++su dn e (x.take j)) (e.2,r.1+r.2-e.2) rfl ?c1 W5.1.size 1 rfl ?c2 ?c3 ?c4 ?c5 ?_)
      case c1=>exact HOW4.o.below (ae _ _)
      all_goals first|(case c2=>exact aD rfl rfl)|(case c3=>exact aD rfl rfl)|(case c4=>rw[cD];omega)|(case c5=>simp;omega)|skip
      intro v' w6 OR a8 am;have hA:=ae W5 (.cells #[.int .i64 e.2,.int .i64 (r.1+r.2-e.2)] 55);have a9:=(hA.block _ (aq ar2.o)).trans ar2.o;have Tq:=aa ((eI.o.trans (hA.mono WJ)).trans a8);have WK:=aa ((am.block Ba (aq a9) (fun e=>(HOW4.o.below hA).ne a9 Tc4 e.symm)).trans a9);replace OR:=aa OR;clear hA a9 a8 am a1 a2 r0 r1;go_wp2;go_roundw;exact⟨j+1,Tc1,Tc5,by rw[fl.o];first|exact OR.o|(rw[<- cV];exact OR.o),WK.o,Tq.o⟩;simp[intOf];omega
     rw[bh (fun c=>h2 c.2.2),eM]at fl;exact TbQ
    rw[bh (fun c=>h1 c.2.1),eM]at fl;exact TbQ
   have aC:=jI hen;rw[bh (fun c=>hen c.1),eM]at fl;have Sv:=aa hen;clear hen;exact TbQ
  obtain rfl:j=x.length:=by omega
  rw[cI]at HOW;have WL:Hid (bM wr w2.1.size _ (mQ (E.take (k+1)) dn x)):=aa (by rw[QY.o];exact HOW.o);clear HOW;go_wp2;go_roundw;exact⟨k+1,Tc1,Tc5,WL.o,HB.o⟩;simp[intOf];omega
 obtain rfl:k=E.length:=by omega
 rw[cI]at HOW hbl;have HV:=aa (xS (ends:=E) (nm:=dn) qu.o);have HN:=aa (tJ (mQ E dn x) _ wr HOW.o.rd HV.o Tc1);have fy:Hid (Below w.1.size w wr):=aa (cm.o.trans (HB.o.mono ao));clear HOW;go_wp2_with fail;refine HN.o.mono ?_;rintro e' w7 ⟨v7,x7,rfl,ab,ag,aM,tb⟩;replace ab:=aa ab;replace ag:=aa ag;have wk:=Zbl fy tb;have Zu:=aa fy.o.size;clear tb;go_wp2;go_ret2;exact⟨v7,x7,rfl,ab.o.mono Zu.o,ag.o,Tc1,wk.o⟩
def N7(ok F:Nat->Prop)(Qj:FuncId)(Nd:List Value)(F9:List ay)(I:List (ay × aB)->World->Prop)(w:World):Prop :=
 ∀(pre:List (ay × aB)) (v:ay) (s:aB) (post:List (ay × aB)),aA F9=pre++(v,s) :: post->∀(W:World) (u1 u2:List Value),cR F w W->I pre W->aN ok W u1 v->bC ok W u2 s ->
  Calls prog Qj (Value.agg u1.toArray :: Value.agg u2.toArray :: Nd).toArray W fun e W'=>e=.returned (.int .i64 0)/\cR F W W'/\I (pre++[(v,s)]) W'
def BS{ok F:Nat->Prop}(Qj:FuncId)(Nd:List Value)(a9:∀(l:Array Value) (W:World),Sem.run prog (callFunc Qj l) W=.ok (.enter Qj l) W)(g:af)(a:bN)(bc:Nat)(I:List (ay × aB)->World->Prop)(w:World)(kB:gY w bc g a)(hg:dN ok w g a)(hz:JT g)
  (hF:∀k,F k->k<w.1.size/\¬ok k) (hI:∀pre W W',I pre W->Below W.1.size W W'->I pre W') (h0:I [] w) (hC:N7 ok F Qj Nd g.F9 I w) :
  Calls prog 144 #[.pointer (some bc),.func (.func Qj) #[] Nd.toArray] w fun e w'=>e=.returned (.tuple #[.string ⟨#[]⟩,.int .i64 0])/\cR F w w'/\I (aA g.F9) w':=by
 have jt:=kB.lt;replace a9:=aa a9;obtain⟨sm,da,_⟩:=kB;have nw:Hid (bX w bc sm g a):=aa da;clear da;obtain⟨g0,g1,g2,g3,g4,g5,g6,g7,g8⟩:=bX.cells nw.o;have HG:=aa hg.F9;have HZ:=aa hz;have mb:=hz.vl;obtain⟨vp,vc,sT,aD,aE⟩:=hg.F9.cap;replace hF:=aa hF;replace hI:=aa hI;replace hC:=aa hC;replace h0:=aa h0;clear hg hz;injection sT with e1 e2 e3;obtain⟨ID,aF,aG,G3,G4,Ge,Hb,Hc⟩:=a;dsimp only at e1 e2 e3 g0 g1 g2 g3 g4 g5 g6 g7 g8;subst e1;subst e3;clear e2;go_enter func144,ntmps144;go_wp2;clear g0 g1 g2 g3 g4 g5 g6 g7 g8
 go_loopw[17] (fun i wr=>∃k:Nat,k<=g.F9.length/\i=.int .i64 k/\cR F w wr/\I (aA (g.F9.take k)) wr) (fun i _=>g.F9.length-(intOf i).toNat)
 exact⟨0,cg _,rfl,cR.refl _ _,h0.o⟩;clear h0;obtain⟨k,hk,rfl,hm,hi⟩:=hrel;have HM:=aa hm;clear hm;have HI:=aa hi;clear hi;by_cases hlt:k<g.F9.length
 ·obtain⟨v,hv⟩:=aj g.F9 k hlt;obtain⟨b,off,us,rfl,gR,cX,ez,eE,ON⟩:=HG.o.elem hv;have My:=aa eE;have ag:=HZ.o.vz v (ct hv);have GF:=ag.Gf;obtain⟨tv,sv,rfl,ew,fL⟩:=eE;obtain⟨tp,tc,rfl,_,_⟩:=ew.cap;obtain⟨sp,sc,rfl,ai,ak⟩:=fL.cap;have cT:wr.1[b]?=w.1[b]?:=HM.o.block b cX (fun f=>(hF.o b f).2 gR);obtain⟨q0,q1,q2,q3,q4,q5⟩:=sw6 cT ON;replace hv:=aa hv;replace fL:=aa fL;clear ON ez cT ew ag;have zv:=aa (b9 wr (.cells (Tah v tp tc sp sc) 68));have hA:=ae wr (.cells (Tah v tp tc sp sc) 68);have ah:=aa (HM.o.trans (cR.of_below (F:=fun _=>False) hA) (fun _ f=>f.elim));have Qh:=aa (hI.o _ _ _ HI.o hA);have mA:=HM.o.size;have VD:=aa (aq zv.o);clear hA;go_wp2;clear q0 q1 q2 q3 q4 q5;generalize R0:AI wr _=W1 at *;generalize am:wr.1.size=Bv at *;clear R0 am HI HM;go_loopw[24] (fun i wi=>∃j:Nat,j<=v.Gf.length/\i=.int .i64 j/\cR F w wi/\I (bW g.F9 k j v) wi/\wi.1[Bv]?=some (.cells (Tah v tp tc sp sc) 68 (0,0))) (fun i _=>v.Gf.length-(intOf i).toNat)
  exact⟨0,cg _,rfl,ah.o,by rw[eQ];exact Qh.o,zv.o⟩;clear ah Qh zv VD;obtain⟨j,hj,rfl,hm,hi,vA⟩:=hrel;have HM:=aa hm;clear hm;have HI:=aa hi;clear hi;have zv:=aa vA;clear vA;by_cases hlt2:j<v.Gf.length
  ·obtain⟨s,hs⟩:=aj v.Gf j hlt2;obtain⟨b2,off2,aH,qt,I0,C2,B5,C3,a7⟩:=fL.o.elem hs;subst qt;have ao:=aa C3;obtain⟨av,Oz,rfl,mC,hst⟩:=C3;obtain⟨ap,ac,rfl,_,_⟩:=mC.cap;obtain⟨eN,eR,rfl,_,_⟩:=hst.cap;have AD:wr.1[b2]?=w.1[b2]?:=HM.o.block b2 C2 (fun f=>(hF.o b2 f).2 I0);obtain⟨q0,q1,q2,q3,q4,q5,q6,q7,q8,q9,au⟩:=ak5 AD a7;replace hs:=aa hs;have vL:=cr zv.o;obtain⟨v0,v1,v2,v3,v4,v5⟩:=sv6 vL;have hA:=ae wr (.cells (Tae s ap ac eN eR) 114);have a8:=aa (HM.o.trans (cR.of_below (F:=fun _=>False) hA) (fun _ f=>f.elim));have Qi:=aa (hI.o _ _ _ HI.o hA);have aw:=aq zv.o;have cm:=aa ((hA.block _ aw).trans zv.o);clear a7 B5 AD mC hst vL hA;go_wp2_with fail;clear q0 q1 q2 q3 q4 q5 q6 q7 q8 q9 au v0 v1 v2 v3 v4 v5;generalize az:AI wr _=W2 at *;clear az;have N5:=hC.o (bW g.F9 k j v) v s (fV g.F9 k (j+1) v) (jB g.F9 k j v s hv.o hs.o) W2 _ _ a8.o Qi.o (aN.moves.mv (Mv.mod a8.o (fun b f=>(hF.o b f).2)) My.o) (bC.moves.mv (Mv.mod a8.o (fun b f=>(hF.o b f).2)) ao.o);rw[a9.o];refine N5.mono ?_;clear N5;rintro e w3 ⟨rfl,ab,a5⟩;replace a5:=aa a5;have Rp:=aa (a8.o.trans ab (fun k f=>.inl f));have cJ:Hid (w3.1[Bv]?=_):=aa ((ab.block _ (aq cm.o) (fun f=>by have:=(hF.o Bv f).1;omega)).trans cm.o);have VE:Hid (I (bW g.F9 k (j+1) v) w3):=aa (by rw[fG g.F9 k j v s hs.o];exact a5.o);have n0:=cr cJ.o 0 _ rfl;clear ab a5 a8 Qi cm HI;go_wp2;go_roundw;exact⟨j+1,Tc1,Tc5,Rp.o,VE.o,cJ.o⟩;simp[intOf];omega
  obtain rfl:j=v.Gf.length:=by omega
  have a5:Hid (I (aA (g.F9.take (k+1))) wr):=aa (by rw[<- fJ g.F9 k v hv.o];exact HI.o);clear HI;go_wp2;go_roundw;exact⟨k+1,Tc1,Tc5,HM.o,a5.o⟩;simp[intOf];omega
 obtain rfl:k=g.F9.length:=by omega
 have aC:Hid (I (aA g.F9) wr):=aa (by have:=HI.o;rwa[cI]at this);go_wp2;go_ret2;exact⟨rfl,HM.o,aC.o⟩
def Tb4{p:Prop}(h:p:=by
 have:=b9 (w.alloc (.cells (Tah v tp tc sp sc) 68)) (.cells (Tae s ap ac eN eR) 114);rw[cW]at this;exact this):p:=h
def Tbd{p:Prop}(h:p:=by
 (refine aU Tc3 Tc3 ?_;(repeat(go_big_quiet_step ((go_at_call 150;exact iH (HLE.o _ _)))));(with_reducible refine fR ?_);intro wq ia;have kq:=dY ia;clear ia)
 have fy:=Zbl cm kq;clear kq el0 es1 es3 eq1;have hsb:=ox.o;generalize (dO g r.on==s.length)=x at *;subst hsb;go_wp2;go_ret;exact⟨rfl,fy.o⟩):p:=h
def MS{ok:Nat->Prop}(g:af)(a:bN)(bc Bc Bl:Nat)(v:ay)(s:aB)(u1 u2:List Value)(w:World)(kB:gY w bc g a)(au:w.cell? Bc=some (.pointer (some bc)))(Hh:Bc<w.1.size)
  (hll:w.cell? Bl=some (.func (.func 150) #[] #[Bc])) (hbl:Bl<w.1.size) (hg:dN ok w g a) (hz:JT g) (ag:Cu g) (hx:1<=g.Gd/\g.Gd<=1024)
  (hv:aN ok w u1 v) (hs:bC ok w u2 s) (hf:Ah s) (hsb:CX g s=true) :
  Calls prog 152 #[.agg u1.toArray,.agg u2.toArray,.pointer (some Bl),.pointer (some Bc)] w fun e w'=>e=.returned (.int .i64 0)/\Below w.1.size w w':=by
 have jt:=kB.lt;obtain⟨tv,sv,rfl,ew,fL⟩:=hv;obtain⟨tp,tc,rfl,_,_⟩:=ew.cap;obtain⟨sp,sc,rfl,_,_⟩:=fL.cap;obtain⟨av,Oz,rfl,mC,hst⟩:=hs;obtain⟨ap,ac,rfl,aO,aP⟩:=mC.cap;obtain⟨eN,eR,rfl,az,aA⟩:=hst.cap;replace mC:=aa mC;clear ew fL hst;have I3:=aa kB;obtain⟨sm,da,_⟩:=kB;have nw:Hid (bX w bc sm g a):=aa da;clear da;replace hg:=aa hg;have HZ:=aa hz;clear hz;have O6:=aa hf;have hl0:=hf.fm.l0;have hl1:=hf.fm.l1;have aQ:=hf.fm.ar;clear hf;replace ag:=aa ag;replace hx:=aa hx;have ah:=aa au;have HLL:=aa hll;have hb2:=(ae w (.cells (Tah v tp tc sp sc) 68)).trans ((ae (w.alloc (.cells (Tah v tp tc sp sc) 68)) (.cells (Tae s ap ac eN eR) 114)).mono (ae w _).size);have h1:((w.alloc (.cells (Tah v tp tc sp sc) 68)).alloc (.cells (Tae s ap ac eN eR) 114)).1[w.1.size+1]?=some (.cells (Tae s ap ac eN eR) 114 (0,0)):=by
  exact Tb4
 have cm:=aa hb2;clear hb2;have H1:=aa h1;clear h1;have LI:∀wr:World,wr.1[w.1.size+1]?=some (.cells (Tae s ap ac eN eR) 114 (0,0))->∀(j:Nat) (z:Value),[.int .i64 s.start,.int .i64 s.length,.int .i64 s.kind,.slice ap s.Ga.length ac,.int .i64 s.chunk,.slice eN s.stale.length eR,.string s.log,.string s.pool,.int .i64 s.device,.int .i64 s.mode,.int .i64 s.done][j]?=some z->wr.cell? ⟨w.1.size+1,j,none⟩=some z:=fun wr h j z hz=>by
  exact TcH
 replace LI:=aa LI;have Ys:∀(wr:World) (nm:ByteArray),Below w.1.size w wr->Calls prog 150 #[.string nm,.pointer (some Bc)] wr fun e w'=>e=.returned (.int .i64 (dO g nm))/\Below wr.1.size wr w':=fun wr nm hB =>
  yC (ok:=ok) g a bc Bc nm wr (I3.o.below hB) ((hB.cell Hh).trans ah.o) (hg.o.mv (Mv.of hB)) HZ.o
 replace Ys:=aa Ys;clear au hll;have ox:Hid (_=true):=aa ((CX.eq_1 g s).symm.trans hsb);clear hsb;go_enter func152,ntmps152
 go_upto_region 2 with(fail);generalize aC:AI (AI w _) _=W2 at *;clear aC;have s2:=LI.o W2 H1.o 2 _ rfl;by_cases h3:s.kind=3
 ·have aD:(s.kind==3)=true:=by simpa using h3
  rw[aw h3]at ox;have hn:=O6.o.c3 h3;clear h3;have a7:=aa (Bool.and_eq_true_iff.1 ox.o);clear ox;have hn1:=hn.1;have hn2:=hn.2;clear hn;have s3:=LI.o W2 H1.o 3 _ rfl;go_upto_region 5 with(fail);clear s2 s3;go_loopw[20,7] (fun i x wr=>∃k:Nat,k<=s.Ga.length/\i=.int .i64 k/\x=.bool true/\Below w.1.size w wr/\wr.1[w.1.size+1]?=some (.cells (Tae s ap ac eN eR) 114 (0,0))) (fun i _ _=>s.Ga.length-(intOf i).toNat)
  exact⟨0,cg _,rfl,rfl,cm.o,H1.o⟩;clear cm H1;obtain⟨k,hk,rfl,rfl,hB,a8⟩:=hrel;have H1:=aa a8;clear a8;by_cases hlt:k<s.Ga.length
  ·obtain⟨r,hr⟩:=aj s.Ga k hlt;obtain⟨b,off,us,rfl,_,cX,TE,Tv,a5⟩:=mC.o.elem hr;obtain rfl:us=_:=Tv;have cT:wr.1[b]?=w.1[b]?:=hB.block b cX;have q0:=(cd (a:=⟨b,off+k*3,none⟩) cT).trans (a5 0 _ rfl);have q1:=(cd (a:=⟨b,off+k*3+1,none⟩) cT).trans (a5 1 _ rfl);have q2:=(cd (a:=⟨b,off+k*3+2,none⟩) cT).trans (a5 2 _ rfl);have VB:=aa (An.1 a7.o.1 r (ct hr));clear a5 TE cT hr;have hA:=ae wr (.cells (Taw r) 53);have pL:=aa (b9 wr (.cells (Taw r) 53));have cU:=aa (hB.trans (hA.mono hB.size));have a9:=Zbk hA H1;clear hA;go_upto_region 7 with(fail);generalize ai:AI wr _=W3 at *;generalize ak:wr.1.size=Ba at *;clear ai ak hB q0 q1 q2 H1;have a1:=cr pL.o 1 _ rfl;have s1:=cr a9.o 1 _ rfl;have l0:=(cU.o.cell (p:=Bl) hbl).trans HLL.o;have el0:=aG (cP W3 _ l0) l0;have es1:=aG (cP W3 _ s1) s1;have VI:=aG (cP W3 _ a1) a1;have HLE:Hid (∀(p:fo) nm,Calls prog 150 #[.string nm,.pointer (some Bc)] (ext W3 p) fun e w'=>e=.returned (.int .i64 (dO g nm))/\Below (ext W3 p).1.size (ext W3 p) w'):=aa fun p nm=>Ys.o _ nm (mn cU.o (dQ W3 p))
   (refine aU Tc3 Tc3 ?_;(repeat(go_big_quiet_step ((go_at_call 150;exact iH (HLE.o _ _)))));(with_reducible refine fR ?_);intro wq ia;have kq:=dY ia;clear ia)
   have fy:=Zbl cU kq;have O7:=Zbk kq a9;clear kq el0 es1 VI a1 s1 l0;go_wp2;go_roundw;exact⟨k+1,Tc1,Tc5,by rw[show(dO g r.on==s.length)=true from VB.o],fy.o,O7.o⟩;simp[intOf];omega
  obtain rfl:k=s.Ga.length:=by omega
  have s1:=cr H1.o 1 _ rfl;have s4:=cr H1.o 4 _ rfl;have cB:=(hB.cell (p:=Bc) Hh).trans ah.o;obtain⟨-,-,-,g3,-,-,-,-,-⟩:=bX.cells (sm:=sm) ((hB.block bc jt).trans nw.o);have es1:=aG (cP wr _ s1) s1;have aE:=aG (cP wr _ s4) s4;have Rs:=aG (cP wr _ cB) cB;have ab:=aG (cP wr _ g3) g3;have x1:=hx.o.1;have x2:=hx.o.2;have m0:0<=s.length*g.Gd:=oA Tc1 Tc1;have m1:s.length*g.Gd<=32768*1024:=tW hl1 x2 Tc1 Tc1;have w1:IntKind.i64.wrap (s.length*g.Gd)=s.length*g.Gd:=dy _ Tc1;have r0:0<=BZ g s:=lz Tc1 Tc1;have r1:BZ g s<=s.length*g.Gd+s.chunk-1:=mS _ Tc1;have Yt:Hid (BZ g s=_):=aa (BZ.eq_1 g s);go_upto_region 9 with(fail);(refine aU Tc3 Tc3 ?_;(repeat(go_big_quiet_step ((go_at_call 153;exact iH (tN _ _ _ Tc1 Tc1 Tc1 Tc1)))));(with_reducible refine fR ?_);intro wq ia;have kq:=dY ia;clear ia)
  have fy:=aa (hB.trans (kq.mono hB.size));have O7:=Zbk kq H1;clear kq es1 aE Rs ab s1 s4 cB g3 w1;rw[<- Yt.o];generalize hR:BZ g s=R at *;replace hR:=aa hR;clear Yt;go_upto_region 10 with(fail);have s6:=cr O7.o 6 _ rfl;by_cases hle:s.log.toList.isEmpty=true
  ·go_quiet (fail)
   go_wp2;go_ret;exact⟨rfl,aT fy.o _⟩
  have am:s.log.toList.isEmpty=false:=by simpa using hle
  have aF:Hid (1+(R+64-1)/64<=dO g s.log*g.Gd):=aa (by
   have:=a7.o.2;unfold Fe at this;rw[hR.o]at this;simpa[am]using this)
  clear hle;have l0:=(fy.o.cell (p:=Bl) hbl).trans HLL.o;have cB:=(fy.o.cell (p:=Bc) Hh).trans ah.o;obtain⟨-,-,-,g3,-,-,-,-,-⟩:=bX.cells (sm:=sm) ((fy.o.block bc jt).trans nw.o);have el0:=aG (cP wq _ l0) l0;have aH:=aG (cP wq _ s6) s6;have Rs:=aG (cP wq _ cB) cB;have ab:=aG (cP wq _ g3) g3;have lb:=ag.o s.log;have ao:=lb.1;have aq:=lb.2;have HLE:Hid (∀(p:fo),Calls prog 150 #[.string s.log,.pointer (some Bc)] (ext wq p) fun e w'=>e=.returned (.int .i64 (dO g s.log))/\Below (ext wq p).1.size (ext wq p) w'):=aa fun p=>Ys.o _ _ (mn fy.o (dQ wq p));generalize dO g s.log=L at *;have v0:0<=L*g.Gd:=oA ao Tc1;have v1:L*g.Gd<=10000000*1024:=tW aq x2 Tc1 Tc1;have w1:IntKind.i64.wrap (L*g.Gd)=L*g.Gd:=dy _ Tc1;have y0:0<=(R+64-1)/64:=lz Tc1 Tc1;have y1:(R+64-1)/64<=R+64-1:=mS _ Tc1;have w2:IntKind.i64.wrap (1+(R+64-1)/64)=1+(R+64-1)/64:=dy _ Tc1
  (refine aU Tc3 Tc3 ?_;(repeat(go_big_quiet_step ((first|(go_at_call 153;exact iH (tN _ _ _ Tc1 Tc1 Tc1 Tc1))|(go_at_call 150;exact iH (HLE.o _))))));(with_reducible refine fR ?_);intro wq ia;have kq:=dY ia;clear ia)
  have Fc:=Zbl fy kq;clear kq el0 aH Rs ab l0 cB g3 s6 w1 w2;have aR:=aF.o;generalize 1+(R+64-1)/64=X at *;generalize L*g.Gd=Y at *;go_wp2;go_ret;exact⟨rfl,Fc.o⟩
 have aD:(s.kind==3)=false:=by simpa using h3
 rw[bh h3]at ox;clear h3;by_cases h4:s.kind=4
 ·have aI:(s.kind==4)=true:=by simpa using h4
  rw[aw h4]at ox;have hn:=O6.o.a4 h4;clear h4;obtain⟨r0,hr0⟩:=aj s.Ga 0 Tc1;have ho:aOn s 0=r0.on:=by simp[aOn,hr0]
  rw[ho]at ox;have a7:=aa (Bool.and_eq_true_iff.1 ox.o);have Kp:Hid (s.length/((s.Ga.length:Int)-1)*g.Gd+16<=dO g r0.on*g.Gd):=aa (by
   have:=a7.o.2;unfold ER at this;rw[ho]at this;exact of_decide_eq_true this)
  clear ox;obtain⟨b,off,us,rfl,_,cX,ez,eE,ON⟩:=mC.o.elem hr0;obtain rfl:us=_:=eE;have Z1:=aa (ON 1 _ rfl);clear ON ez hr0 ho;have s3:=LI.o W2 H1.o 3 _ rfl;go_upto_region 13 with(fail);clear s2 s3;go_loopw[73,7] (fun i x wr=>∃k:Nat,k<=s.Ga.length/\i=.int .i64 k/\x=.bool true/\Below w.1.size w wr/\wr.1[w.1.size+1]?=some (.cells (Tae s (some ⟨b,off,none⟩) ac eN eR) 114 (0,0))) (fun i _ _=>s.Ga.length-(intOf i).toNat)
  exact⟨0,cg _,rfl,rfl,cm.o,H1.o⟩;clear cm H1;obtain⟨k,hk,rfl,rfl,hB,a8⟩:=hrel;have H1:=aa a8;clear a8;by_cases hlt:k<s.Ga.length
  ·obtain⟨r,hr⟩:=aj s.Ga k hlt;obtain⟨b',aJ,aK,e',_,aL,TE,Tv,a5⟩:=mC.o.elem hr;injection e' with e';injection e' with eb eo;subst eb;subst eo;obtain rfl:aK=_:=Tv;have cT:wr.1[b]?=w.1[b]?:=hB.block b cX;have q0:=(cd (a:=⟨b,off+k*3,none⟩) cT).trans (a5 0 _ rfl);have q1:=(cd (a:=⟨b,off+k*3+1,none⟩) cT).trans (a5 1 _ rfl);have q2:=(cd (a:=⟨b,off+k*3+2,none⟩) cT).trans (a5 2 _ rfl);have VB:=aa (An.1 a7.o.1 r (ct hr));clear a5 TE cT aL hr;have hA:=ae wr (.cells (Taw r) 53);have pL:=aa (b9 wr (.cells (Taw r) 53));have cU:=aa (hB.trans (hA.mono hB.size));have a9:=Zbk hA H1;clear hA;go_upto_region 15 with(fail);generalize ai:AI wr _=W3 at *;generalize ak:wr.1.size=Ba at *;clear ai ak hB q0 q1 q2 H1;have a1:=cr pL.o 1 _ rfl;have s3:=cr a9.o 3 _ rfl;have l0:=(cU.o.cell (p:=Bl) hbl).trans HLL.o;have z1:=(cU.o.cell (p:=⟨b,off+0*3+1,none⟩) cX).trans Z1.o;have el0:=aG (cP W3 _ l0) l0;have es3:=aG (cP W3 _ s3) s3;have VI:=aG (cP W3 _ a1) a1;have VJ:=aG (cP W3 _ z1) z1;have HLE:Hid (∀(p:fo) nm,Calls prog 150 #[.string nm,.pointer (some Bc)] (ext W3 p) fun e w'=>e=.returned (.int .i64 (dO g nm))/\Below (ext W3 p).1.size (ext W3 p) w'):=aa fun p nm=>Ys.o _ nm (mn cU.o (dQ W3 p))
   (refine aU Tc3 Tc3 ?_;(repeat(go_big_quiet_step ((go_at_call 150;exact iH (HLE.o _ _)))));(with_reducible refine fR ?_);intro wq ia;have kq:=dY ia;clear ia)
   have fy:=Zbl cU kq;have O7:=Zbk kq a9;clear kq el0 es3 VI VJ a1 s3 l0 z1;go_wp2;go_roundw;exact⟨k+1,Tc1,Tc5,by rw[show(dO g r.on==dO g r0.on)=true from VB.o],fy.o,O7.o⟩;simp[intOf];omega
  obtain rfl:k=s.Ga.length:=by omega
  have s1:=cr H1.o 1 _ rfl;have s3:=cr H1.o 3 _ rfl;have l0:=(hB.cell (p:=Bl) hbl).trans HLL.o;have cB:=(hB.cell (p:=Bc) Hh).trans ah.o;have z1:=(hB.cell (p:=⟨b,off+0*3+1,none⟩) cX).trans Z1.o;obtain⟨-,-,-,g3,-,-,-,-,-⟩:=bX.cells (sm:=sm) ((hB.block bc jt).trans nw.o);have el0:=aG (cP wr _ l0) l0;have es1:=aG (cP wr _ s1) s1;have es3:=aG (cP wr _ s3) s3;have Rs:=aG (cP wr _ cB) cB;have ab:=aG (cP wr _ g3) g3;have VJ:=aG (cP wr _ z1) z1;have HLE:Hid (∀(p:fo) nm,Calls prog 150 #[.string nm,.pointer (some Bc)] (ext wr p) fun e w'=>e=.returned (.int .i64 (dO g nm))/\Below (ext wr p).1.size (ext wr p) w'):=aa fun p nm=>Ys.o _ nm (mn hB (dQ wr p));have lb:=ag.o r0.on;have ao:=lb.1;have aq:=lb.2;have x1:=hx.o.1;have x2:=hx.o.2;generalize hL:dO g r0.on=L at *;have m0:0<=L*g.Gd:=oA ao Tc1;have m1:L*g.Gd<=10000000*1024:=tW aq x2 Tc1 Tc1;have w1:IntKind.i64.wrap (L*g.Gd)=L*g.Gd:=dy _ Tc1;have w2:IntKind.i64.wrap ((s.Ga.length:Int)-1)=(s.Ga.length:Int)-1:=dy _ Tc1;have n0:(((s.Ga.length:Int)-1)==0)=false:=by simp;omega
  have d0:s.length.tdiv ((s.Ga.length:Int)-1)=s.length/((s.Ga.length:Int)-1):=CC Tc1;have d1:0<=s.length/((s.Ga.length:Int)-1):=lz Tc1 Tc1;have d2:s.length/((s.Ga.length:Int)-1)<=s.length:=mS _ Tc1;generalize s.length/((s.Ga.length:Int)-1)=D at *;have w3:IntKind.i64.wrap D=D:=dy _ Tc1;have m2:0<=D*g.Gd:=oA d1 Tc1;have m3:D*g.Gd<=32768*1024:=tW Tc1 x2 Tc1 Tc1;have w4:IntKind.i64.wrap (D*g.Gd)=D*g.Gd:=dy _ Tc1;have w5:IntKind.i64.wrap (D*g.Gd+16)=D*g.Gd+16:=dy _ Tc1;have VK:Hid (∀(p:fo),Calls prog 150 #[.string r0.on,.pointer (some Bc)] (ext wr p) fun e w'=>e=.returned (.int .i64 L)/\Below (ext wr p).1.size (ext wr p) w'):=aa fun p=>by rw[<- hL];exact HLE.o p _
  clear HLE;go_upto_region 17 with(fail);(refine aU Tc3 Tc3 ?_;(repeat(go_big_quiet_step ((go_at_call 150;exact iH (VK.o _)))));(with_reducible refine fR ?_);intro wq ia;have kq:=dY ia;clear ia)
  have fy:=aa (hB.trans (kq.mono hB.size));clear kq el0 es1 es3 Rs ab VJ s1 s3 l0 cB z1 g3 w1 w2 w3 w4 w5 d0 n0;have hpb:=Kp.o;generalize D*g.Gd=X at *;generalize L*g.Gd=Y at *;exact TcK
 have aI:(s.kind==4)=false:=by simpa using h4
 rw[bh h4]at ox;clear h4;by_cases h5:s.kind=5
 ·have aM:(s.kind==5)=true:=by simpa using h5
  rw[aw h5]at ox;have hn:=O6.o.fm.p5 h5;obtain⟨r,hr⟩:=aj s.Ga 1 Tc1;have ho:aOn s 1=r.on:=by simp[aOn,hr]
  rw[ho]at ox;obtain⟨b,off,us,rfl,_,cX,ez,eE,ON⟩:=mC.o.elem hr;obtain rfl:us=_:=eE;have q1:=(cm.o.cell (p:=⟨b,off+1*3+1,none⟩) cX).trans (ON 1 _ rfl);have s1:=LI.o W2 H1.o 1 _ rfl;have s3:=LI.o W2 H1.o 3 _ rfl;have l0:=(cm.o.cell (p:=Bl) hbl).trans HLL.o;have el0:=aG (cP W2 _ l0) l0;have es1:=aG (cP W2 _ s1) s1;have es3:=aG (cP W2 _ s3) s3;have eq1:=aG (cP W2 _ q1) q1;have HLE:Hid (∀(p:fo) nm,Calls prog 150 #[.string nm,.pointer (some Bc)] (ext W2 p) fun e w'=>e=.returned (.int .i64 (dO g nm))/\Below (ext W2 p).1.size (ext W2 p) w'):=aa fun p nm=>Ys.o _ nm (mn cm.o (dQ W2 p));clear ON ez hr ho cX
  go_upto_region 19 with(fail);exact Tbd
 have aM:(s.kind==5)=false:=by simpa using h5
 rw[bh h5]at ox;clear h5;by_cases h7:s.kind=7
 ·have OY:(s.kind==7)=true:=by simpa using h7
  rw[aw h7]at ox;have hn:=O6.o.fm.p7 h7;obtain⟨r,hr⟩:=aj s.Ga 0 Tc1;have ho:aOn s 0=r.on:=by simp[aOn,hr]
  rw[ho]at ox;obtain⟨b,off,us,rfl,_,cX,ez,eE,ON⟩:=mC.o.elem hr;obtain rfl:us=_:=eE;have q1:=(cm.o.cell (p:=⟨b,off+0*3+1,none⟩) cX).trans (ON 1 _ rfl);have s1:=LI.o W2 H1.o 1 _ rfl;have s3:=LI.o W2 H1.o 3 _ rfl;have l0:=(cm.o.cell (p:=Bl) hbl).trans HLL.o;have el0:=aG (cP W2 _ l0) l0;have es1:=aG (cP W2 _ s1) s1;have es3:=aG (cP W2 _ s3) s3;have eq1:=aG (cP W2 _ q1) q1;have HLE:Hid (∀(p:fo) nm,Calls prog 150 #[.string nm,.pointer (some Bc)] (ext W2 p) fun e w'=>e=.returned (.int .i64 (dO g nm))/\Below (ext W2 p).1.size (ext W2 p) w'):=aa fun p nm=>Ys.o _ nm (mn cm.o (dQ W2 p));clear ON ez hr ho cX
  go_upto_region 21 with(fail);exact Tbd
 have OY:(s.kind==7)=false:=by simpa using h7
 rw[bh h7]at ox;clear h7;go_wp2;go_ret;exact⟨rfl,cm.o⟩
def OkM(w:World)(e:Ending)(w':World):Prop:=e=.returned (.tuple #[.string ⟨#[]⟩,.int .i64 0])/\Below w.1.size w w'
def Lu{ok:Nat->Prop}(g:af)(a:bN)(bc:Nat)(w:World)(kB:gY w bc g a)(hg:dN ok w g a)(hz:JT g)(hx:1<=g.Gd/\g.Gd<=1024)(TY:Ct g)(hsf:∀v∈g.F9,∀(k:Nat) (s:aB),v.Gf[k]?=some s->bJ g.Gd s (Cw (v.Gf.take k))=true/\(1<v.Gf.length->(oO s.kind).several=true))(GF:∀v∈g.F9,∀s∈v.Gf,wM s) :
  Calls prog 104 #[.pointer (some bc)] w (OkM w):=by
 replace hsf:=aa hsf;have WG:=aa GF;clear GF;have jt:=kB.lt;have I3:=aa kB;obtain⟨sm,da,a5⟩:=kB;have nw:Hid (bX w bc sm g a):=aa da;have VF:Hid (w.cell? (Tac bc 9)=some (.map (some sm))):=aa (by simp[AN,da]);replace a5:=aa a5;clear da;obtain⟨g0,g1,g2,g3,g4,g5,g6,g7,g8⟩:=bX.cells nw.o;have HG:=aa hg.F9;have HZ:=aa hz;have HX:=aa hx;have aq:=aa TY;have mb:=hz.vl;obtain⟨vp,vc,sT,aH,aI⟩:=hg.F9.cap;clear hg hz hx TY;injection sT with e1 e2 e3;obtain⟨ID,aJ,aK,G3,G4,Ge,Hb,Hc⟩:=a;dsimp only at e1 e2 e3 g0 g1 g2 g3 g4 g5 g6 g7 g8;subst e1;subst e3;clear e2;go_enter func104,ntmps104;go_wp2;clear g0 g1 g2 g3 g4 g5 g6 g7 g8
 go_loopw[15] (fun i wr=>∃k:Nat,k<=g.F9.length/\i=.int .i64 k/\Below w.1.size w wr) (fun i _=>g.F9.length-(intOf i).toNat)
 exact⟨0,cg _,rfl,bj _ _⟩;obtain⟨k,hk,rfl,hB⟩:=hrel;by_cases hlt:k<g.F9.length
 ·obtain⟨v,hv⟩:=aj g.F9 k hlt;obtain⟨b,off,us,rfl,gR,cX,ez,eE,ON⟩:=HG.o.elem hv;have Zr:=ct hv;have a8:=HZ.o.vz v Zr;have GF:=a8.Gf;have B6:=aa a8.seg;have au:=aa (aq.o v Zr);have Ux:=aa (hsf.o v Zr);have HBD:=aa (I7 (l:=v.Gf) fun s hs=>⟨by have:=(WG.o v Zr s hs).l0;omega,(WG.o v Zr s hs).l1⟩);obtain⟨tv,sv,rfl,ew,fL⟩:=eE;obtain⟨tp,tc,rfl,_,_⟩:=ew.cap;obtain⟨sp,sc,rfl,aw,ay⟩:=fL.cap;have cT:wr.1[b]?=w.1[b]?:=hB.block b cX;obtain⟨q0,q1,q2,q3,q4,q5⟩:=sw6 cT ON;replace hv:=aa hv;replace fL:=aa fL;clear ON ez cT ew a8 Zr;have zv:=aa (b9 wr (.cells (Tah v tp tc sp sc) 68));have cU:=aa (hB.trans ((ae wr (.cells (Tah v tp tc sp sc) 68)).mono hB.size));have mA:=hB.size;go_wp2;clear q0 q1 q2 q3 q4 q5;generalize R0:AI wr _=W1 at *;generalize az:wr.1.size=Bv at *;clear R0 az hB;go_loopw[22,6] (fun i st wi=>∃j:Nat,j<=v.Gf.length/\i=.int .i64 j/\st=.int .i64 (Cw (v.Gf.take j))/\Below w.1.size w wi/\wi.1[Bv]?=some (.cells (Tah v tp tc sp sc) 68 (0,0))) (fun i _ _=>v.Gf.length-(intOf i).toNat)
  exact⟨0,cg _,rfl,rfl,cU.o,zv.o⟩;clear cU zv;obtain⟨j,hj,rfl,rfl,hB,vA⟩:=hrel;have htb:=HBD.o j;have zv:=aa vA;clear vA;by_cases hlt2:j<v.Gf.length
  ·obtain⟨s,hs⟩:=aj v.Gf j hlt2;have am:=aa (GI hs);have a9:=Ux.o j s hs;have aA:=aa a9.1;have aC:=aa a9.2;clear a9;have ab:=WG.o v (ct hv.o) s (ct hs);have aL:=ab.l0;have aM:=ab.l1;clear ab;generalize Cw (v.Gf.take j)=t at *;obtain⟨b2,off2,aN,qt,I0,C2,B5,C3,a7⟩:=fL.o.elem hs;subst qt;have aD:=aa C3;have ag:=ct hs;have mu:=B6.o s ag;have ah:=mu.1;have ai:=mu.2;have Yq:=aa (au.o s ag);obtain⟨av,Oz,rfl,mC,hst⟩:=C3;obtain⟨ap,ac,rfl,_,_⟩:=mC.cap;obtain⟨eN,eR,rfl,_,_⟩:=hst.cap;have AD:wr.1[b2]?=w.1[b2]?:=hB.block b2 C2;obtain⟨q0,q1,q2,q3,q4,q5,q6,q7,q8,q9,aE⟩:=ak5 AD a7;clear hs ag mu a7 B5 AD mC hst;have lj:=aa (b9 wr (.cells (Tae s ap ac eN eR) 114));have hA:=ae wr (.cells (Tae s ap ac eN eR) 114);have cm:=aa (hB.trans (hA.mono hB.size));have J0:=Zbk hA zv;clear hA;go_wp2_with fail;clear q0 q1 q2 q3 q4 q5 q6 q7 q8 q9 aE;generalize aF:AI wr _=W2 at *;generalize aG:wr.1.size=Bs at *;clear aF aG;refine(MZ (ok:=ok) g _ bc s t _ W2 (I3.o.below cm.o) (by have:=HX.o.1;omega) (by have:=HX.o.2;omega) (bC.moves.mv (Mv.of cm.o) aD.o) ah ai Yq.o aA.o).mono ?_;rintro e w3 ⟨rfl,hb3⟩;have cJ:=Zbl cm hb3;have pZ:=Zbk hb3 J0;have nB:=Zbk hb3 lj;clear hb3;have n0:=cr pZ.o 0 _ rfl;have n5:=cr pZ.o 5 _ rfl;have s1:=cr nB.o 1 _ rfl;have s2:=cr nB.o 2 _ rfl;have c9:=(cJ.o.cell (p:=⟨bc,9,none⟩) jt).trans VF.o;by_cases h1:1<v.Gf.length
   ·have ao:∀n,(Instr.lookup 153 (.map (some sm)) (.int .i64 s.kind) false).run prog (w3.drewN n)=.ok (jR (oO s.kind)) (w3.drewN n):=fun n=>by
     have hm:bi prog 3 (w3.drewN n) sm 10 eH:=a5.o.block (cJ.o.block _ a5.o.lt);have:=(hm.look pF underlying153 (uG _) (lA underlying3 Yq.o)).1;rwa[uA]at this
    have Xi:=aa (aC.o h1);generalize hxs:oO s.kind=x at *;have ak:∀n,(Instr.lookup 153 (.map (some sm)) (.int .i64 s.kind) false).run prog (w3.drewN n)=.ok (.agg (Tan x)) (w3.drewN n):=ao;clear ao hxs;have N4:=vw x;have hd1:decide ((1:Int)<(v.Gf.length:Int))=true:=by simp;omega
    go_upto_region 10 with(fail);go_quiet (fail);clear ak N4;clear h1 hd1;cases hsv:x.several with
    |false=>exact absurd (hsv.symm.trans Xi.o) Tc4
    |true =>
     clear hsv;go_wp2;go_roundw;exact⟨j+1,Tc1,Tc5,by rw[am.o],aT cJ.o _,pZ.o⟩;simp[intOf];omega
   have hd1:decide ((1:Int)<(v.Gf.length:Int))=false:=by simp;omega
   go_upto_region 10 with(fail);go_quiet (fail);go_wp2;go_roundw
   exact⟨j+1,Tc1,Tc5,by rw[am.o],aT cJ.o _,pZ.o⟩;simp[intOf];omega
  obtain rfl:j=v.Gf.length:=by omega
  go_wp2;go_roundw;exact⟨k+1,Tc1,Tc5,hB⟩;simp[intOf];omega
 obtain rfl:k=g.F9.length:=by omega
 go_wp2;go_ret2;exact⟨rfl,hB⟩
def LB{ok:Nat->Prop}(g:af)(a:bN)(bc:Nat)(s:aB)(u:List Value)(w:World)(kB:gY w bc g a)(hg:dN ok w g a)(hz:JT g)(hv:bC ok w u s)(ha:s.Ga.length<=1000000)(he:jw g s=true) :
  Calls prog 146 #[.pointer (some bc),.agg u.toArray] w fun e w'=>e=.returned (.bool true)/\Below w.1.size w w':=by
 have jt:=kB.lt;have HV:=aa hv;obtain⟨av,Oz,rfl,mC,hst⟩:=hv;obtain⟨ap,ac,rfl,am,ao⟩:=mC.cap;obtain⟨eN,eR,rfl,ab,ag⟩:=hst.cap;replace mC:=aa mC;clear hst;obtain⟨sm,da,TZ⟩:=kB;have nw:Hid (bX w bc sm g a):=aa da;clear da TZ;replace hg:=aa hg;replace hz:=aa hz;have cU:=aa (ae w (.cells (Tae s ap ac eN eR) 114));unfold jw at he;rw[eh]at he;replace he:=aa he;go_enter func146,ntmps146;go_wp2
 go_loopw[16] (fun i wr=>∃k:Nat,k<=s.Ga.length/\i=.int .i64 k/\Below w.1.size w wr/\wr.1[w.1.size]?=some (.cells (Tae s ap ac eN eR) 114 (0,0))) (fun i _=>s.Ga.length-(intOf i).toNat)
 exact⟨0,cg _,rfl,cU.o,b9 w _⟩;obtain⟨k,hk,rfl,hB,PX⟩:=hrel;replace PX:=aa PX;by_cases hlt:k<s.Ga.length
 ·obtain⟨r,hr⟩:=aj s.Ga k hlt;obtain⟨b,off,us,rfl,_,cX,ez,eE,ON⟩:=mC.o.elem hr;obtain rfl:us=_:=eE;have cT:wr.1[b]?=w.1[b]?:=hB.block b cX;obtain⟨q0,q1,q2⟩:=Mn cT ON;replace hr:=aa hr;clear ON ez cT;go_upto_region 4 with(fail);clear q0 q1 q2;have ox:=aa (b9 wr (.cells (Taw r) 53));have eK:=aa (hB.trans ((ae wr (.cells (Taw r) 53)).mono hB.size));have O2:=aa ((cj wr (.cells (Taw r) 53) _ (aq PX.o)).trans PX.o);have mA:=hB.size;generalize ah:AI wr _=W5 at *;generalize au:wr.1.size=Bs at *;clear ah;refine sM (ok:=ok) _ W5 g a bc sm Bs r.on ((eK.o.block bc jt).trans nw.o) (by simp[AN,ox.o]) (aq ox.o) (hg.o.mv (Mv.of eK.o)) hz.o _ _ rfl rfl (aa ?_) (fun _ _ _ _ _ h=>h);intro tp tc b7 W7 tb hbz _ _;have wk:=Zbl eK tb;have Rk:=Zbk tb O2;have a5:=(tb.block _ (aq ox.o)).trans ox.o;have v0:=cr a5 0 _ rfl;clear tb hbz a5 ox eK O2;have hq:=An.1 he.o.1 r (ct hr.o);generalize N4:(bH g.Gb r.on).isSome=fd at *;generalize hrv:r.vol=rv at *;clear N4 hrv;cases rv
  all_goals
   simp only[nj,Bool.true_or]at hq
   try subst hq
   go_wp2;go_roundw;exact⟨k+1,Tc1,Tc5,wk.o,Rk.o⟩;simp[intOf];omega
 have yL:=cr PX.o;obtain⟨y0,y1,y2,y3,y4,y5,y6,y7,y8,y9,ai⟩:=IC yL;have Vx:=aa hB;go_wp2_with fail;clear y0 y1 y2 y3 y4 y5 y6 y7 y8 y9 ai yL;refine(kN (ok:=ok) s true _ _ (bC.moves.mv (Mv.of Vx.o) HV.o) ha).mono ?_;rintro e w3 ⟨uv,rfl,a7,hb3⟩;have kf:=a7.rd (ok:=fun _=>True) (fun _ _=>trivial);obtain⟨up,uc,rfl,O3,O4⟩:=kf.cap;replace kf:=aa kf;clear a7;have cJ:=Zbl Vx hb3;clear hb3;have ez:(dD s true).length<=1000002:=oL s true ha;have VB:=aa he.o.2;generalize hL:dD s true=L at *;clear hL;go_wp2;go_loopw[41] (fun i wr=>∃k:Nat,k<=L.length/\i=.int .i64 k/\Below w3.1.size w3 wr) (fun i _=>L.length-(intOf i).toNat)
 exact⟨0,cg _,rfl,bj _ _⟩;obtain⟨k,hk,rfl,hB⟩:=hrel;by_cases hlt:k<L.length
 ·obtain⟨x,hx⟩:=aj L k hlt;obtain⟨b,off,us,rfl,_,cX,TE,eE,ON⟩:=kf.o.elem hx;obtain rfl:us=_:=eE;have q0:=(hB.cell (p:=⟨b,off+k*1+0,none⟩) cX).trans (ON 0 _ rfl);rw[fp,fg]at q0;replace hx:=aa hx;have fy:=Zbl cJ hB;obtain⟨g0,g1,g2,g3,g4,g5,g6,g7,g8⟩:=bX.cells (sm:=sm) ((fy.o.block bc jt).trans nw.o);clear ON TE;go_wp2_with fail;clear g0 g1 g2 g3 g4 g5 g6 g7 g8;refine(fA (ok:=ok) g a x _ (hg.o.mv (Mv.of fy.o)).F9 hz.o.vl hz.o.vz).mono ?_;rintro e w5 ⟨u5,rfl,⟨t5,s5,rfl,a8,a9⟩,hb5⟩;obtain⟨aw,ay,rfl,_,_⟩:=a8.cap;obtain⟨az,aA,rfl,_,_⟩:=a9.cap;clear a8 a9;have ak:Below w3.1.size w3 w5:=hB.trans (hb5.mono hB.size);have eK:=aa ak;have hq:=An.1 VB.o x (ct hx.o);generalize N4:(aM g.F9 x).isSome=fd at *;generalize (aM g.F9 x).getD eY=vx at *;clear N4 hb5;subst hq;go_wp2;go_roundw;exact⟨k+1,Tc1,Tc5,eK.o.alloc eK.o.size _⟩;simp[intOf];omega
 have fy:=Zbl cJ hB;exact TcK
def Ng{ok:Nat->Prop}(v:ay)(s:aB)(u1 u2:List Value)(w:World)(hv:aN ok w u1 v)(hs:bC ok w u2 s)(ha:s.Ga.length<=1000000)(hS:AW w)(XP:v.name.size<=1000000000)(h5:s.kind=5->2<=s.Ga.length)(h7:s.kind=7->3<=s.Ga.length)(pD:jS v s=true) :
  Calls prog 147 #[.agg u1.toArray,.agg u2.toArray] w fun e w'=>e=.returned (.bool true)/\Below w.1.size w w':=by
 have My:=aa hv;have ai:=aa hs;obtain⟨tv,sv,rfl,ew,fL⟩:=hv;obtain⟨tp,tc,rfl,_,_⟩:=ew.cap;obtain⟨sp,sc,rfl,_,_⟩:=fL.cap;obtain⟨av,Oz,rfl,mC,hst⟩:=hs;obtain⟨ap,ac,rfl,aA,aC⟩:=mC.cap;obtain⟨eN,eR,rfl,ak,am⟩:=hst.cap;clear ew fL mC hst;replace hS:=aa hS;replace h5:=aa h5;replace h7:=aa h7;have hb2:=(ae w (.cells (Tah v tp tc sp sc) 68)).trans ((ae (w.alloc (.cells (Tah v tp tc sp sc) 68)) (.cells (Tae s ap ac eN eR) 114)).mono (ae w _).size);have Yo:VS ok ((w.alloc (.cells (Tah v tp tc sp sc) 68)).alloc (.cells (Tae s ap ac eN eR) 114)) w.1.size (w.1.size+1) v s:=by
  refine⟨⟨_,(cj _ _ _ Tc2).trans (b9 w _),aN.moves.mv (Mv.of hb2) My.o⟩,⟨_,?_,bC.moves.mv (Mv.of hb2) ai.o⟩⟩;exact Tb4
 replace hb2:=aa hb2;replace Yo:=aa Yo;have HF:Hid (_=true):=aa ((jS.eq_1 v s).symm.trans pD);clear pD;have s0:∀wr:World,wr.1[w.1.size+1]?=((w.alloc (.cells (Tah v tp tc sp sc) 68)).alloc (.cells (Tae s ap ac eN eR) 114)).1[w.1.size+1]?->wr.1[w.1.size]?=((w.alloc (.cells (Tah v tp tc sp sc) 68)).alloc (.cells (Tae s ap ac eN eR) 114)).1[w.1.size]?->wr.cell? (Tac (w.1.size+1) 2)=some (.int .i64 s.kind)/\wr.cell? (Tac (w.1.size+1) 6)=some (.string s.log)/\wr.cell? w.1.size=some (.string v.name):=fun wr h1 h0=>by
  have e1:wr.1[w.1.size+1]?=some (.cells (Tae s ap ac eN eR) 114 (0,0)):=by
   rw[h1];exact Tb4
  have e0:wr.1[w.1.size]?=some (.cells (Tah v tp tc sp sc) 68 (0,0)):=h0.trans ((cj _ _ _ Tc2).trans (b9 w _));exact⟨cr e1 _ _ rfl,cr e1 _ _ rfl,cr e0 _ _ rfl⟩
 replace s0:=aa s0;by_cases k34:s.kind=3\/s.kind=4
 ·rw[aw k34]at HF;have Ro:=aa (Bool.and_eq_true_iff.1 HF.o);clear HF;have hk:(s.kind==3)=true\/((s.kind==3)=false/\(s.kind==4)=true):=by
   rcases k34 with h|h
   ·exact .inl Tdq
   exact .inr ⟨Tdr,Tdq⟩
  clear k34;rcases hk with k3|⟨k3,k4⟩
  all_goals
   go_enter func147,ntmps147;have s3:((w.alloc (.cells (Tah v tp tc sp sc) 68)).alloc (.cells (Tae s ap ac eN eR) 114)).cell? (Tac (w.1.size+1) 3)=some (.slice ap s.Ga.length ac):=aD Tc2 rfl;go_wp2;generalize a7:AI (AI w _) _=W2 at *;clear a7 s3
   go_loopw[18] (fun i wr=>∃k:Nat,k<=s.Ga.length/\i=.int .i64 k/\VS ok wr w.1.size (w.1.size+1) v s/\Below w.1.size w wr/\wr.1[w.1.size+1]?=W2.1[w.1.size+1]?/\wr.1[w.1.size]?=W2.1[w.1.size]?/\w.1.size+1<wr.1.size) (fun i _=>s.Ga.length-(intOf i).toNat)
   exact⟨0,cg _,rfl,Yo.o,hb2.o,rfl,rfl,by obtain⟨⟨_,_,_⟩,⟨_,h,_⟩⟩:=Yo.o;exact aq h⟩;obtain⟨k,hk,rfl,eE,hB,a8,a9,mA⟩:=hrel;replace eE:=aa eE;replace a8:=aa a8;replace a9:=aa a9;by_cases hlt:k<s.Ga.length
   ·obtain⟨r,hr⟩:=aj s.Ga k hlt;have Vz:=aa (uD hr);replace hr:=aa hr;go_wp2_with fail;refine(rR (ok:=ok) v s k k r _ _ _ eE.o hr.o (hS.o.below hB) XP).mono ?_;rintro e w3 ⟨rfl,hb3⟩;have cJ:=aa (hB.trans (hb3.mono hB.size));have Rl:=aa (eE.o.below hb3);have ab:=aa ((hb3.block _ mA).trans a8.o);have af:=aa ((hb3.block _ Tc1).trans a9.o);have ao:Hid (w.1.size+1<w3.1.size):=aa (cC mA hb3.size);clear hb3;have hq:=Ro.o.1;unfold vU at hq;replace hq:=An.1 hq k (EV.2 hlt);rw[Vz.o]at hq;generalize dM v.name (bq k) r.on=qq at *;subst hq;go_wp2;go_roundw;exact⟨k+1,Tc1,Tc5,Rl.o,cJ.o,ab.o,af.o,ao.o⟩;simp[intOf];omega
   obtain⟨_,l6,n0⟩:=s0.o wr a8.o a9.o
   cases hle:s.log.toList.isEmpty with
   |true =>
    go_wp2;go_ret;exact⟨rfl,hB⟩
   |false =>
    have hr:Hid (dM v.name (dH 1) s.log=true):=aa (by have:=Ro.o.2;rwa[hle,nj]at this);have HC:=aa (fun W hW=>wC v.name.data.toList 1 W (by simpa using XP) (hS.o.below hW));rw[<- bytes_eta]at HC;go_wp2_with fail;refine(HC.o _ hB).mono ?_;rintro e w3 ⟨rfl,hb3⟩;have cJ:=aa (hB.trans (hb3.mono hB.size));have aE:=(hb3.cell (p:=⟨w.1.size+1,6,none⟩) mA).trans l6;clear hb3 l6;go_wp2_with fail;refine(mJ _ _ _ _).mono ?_;rintro e w4 ⟨rfl,rfl⟩;go_wp2;go_ret;exact⟨ah hr.o,cJ.o⟩
 rw[bh k34]at HF;have k3:(s.kind==3)=false:=by simp;omega
 have k4:(s.kind==4)=false:=by simp;omega
 by_cases k5:s.kind=5
 ·rw[aw k5]at HF;have hl:=h5.o k5;have au:(s.kind==5)=true:=by simpa using k5
  obtain⟨r0,hr0⟩:=aj s.Ga 0 Tc1;obtain⟨r1,hr1⟩:=aj s.Ga 1 Tc1;rw[uD hr0,uD hr1]at HF;clear k5 k34;go_enter func147,ntmps147
  go_wp2_with fail;generalize a7:AI (AI w _) _=W2 at *;clear a7;refine(kg (ok:=ok) v s 0 3 r0 _ _ _ Yo.o hr0 (hS.o.below hb2.o) XP).mono ?_;rintro e w3 ⟨rfl,hb3⟩;have eE:=aa (Yo.o.below hb3);have cJ:=Zbl hb2 hb3;clear hb3;have Ro:=aa (Bool.and_eq_true_iff.1 HF.o);rw[Ro.o.1];go_wp2_with fail;refine(kg (ok:=ok) v s 1 2 r1 _ _ _ eE.o hr1 (hS.o.below cJ.o) XP).mono ?_;rintro e w4 ⟨rfl,a5⟩;have O5:=aa (eE.o.below a5);have eI:=Zbl cJ a5;clear a5;rw[Ro.o.2];go_wp2;go_ret;exact⟨rfl,eI.o⟩
 rw[bh k5]at HF;have au:(s.kind==5)=false:=by simpa using k5
 by_cases k7:s.kind=7
 ·rw[aw k7]at HF;have hl:=h7.o k7;have az:(s.kind==7)=true:=by simpa using k7
  obtain⟨r0,hr0⟩:=aj s.Ga 0 Tc1;obtain⟨r1,hr1⟩:=aj s.Ga 1 Tc1;obtain⟨r2,hr2⟩:=aj s.Ga 2 Tc1;rw[uD hr0,uD hr1,uD hr2]at HF;clear k7 k34 k5;go_enter func147,ntmps147
  go_wp2_with fail;generalize a7:AI (AI w _) _=W2 at *;clear a7;refine(rR (ok:=ok) v s 0 0 r0 _ _ _ Yo.o hr0 (hS.o.below hb2.o) XP).mono ?_;rintro e w3 ⟨rfl,hb3⟩;have eE:=aa (Yo.o.below hb3);have cJ:=Zbl hb2 hb3;clear hb3;have Ro:=aa (Bool.and_eq_true_iff.1 HF.o);have ag:=aa (Bool.and_eq_true_iff.1 Ro.o.1);rw[ag.o.1];go_wp2_with fail;refine(kg (ok:=ok) v s 1 2 r1 _ _ _ eE.o hr1 (hS.o.below cJ.o) XP).mono ?_;rintro e w4 ⟨rfl,a5⟩;have O5:=aa (eE.o.below a5);have eI:=Zbl cJ a5;clear a5;rw[ag.o.2];go_wp2_with fail;refine(kg (ok:=ok) v s 2 3 r2 _ _ _ O5.o hr2 (hS.o.below eI.o) XP).mono ?_;rintro e w5 ⟨rfl,hb5⟩;have Rl:=aa (O5.o.below hb5);have eK:=Zbl eI hb5;clear hb5;rw[Ro.o.2];exact TcZ
 rw[bh k7]at HF;have az:(s.kind==7)=false:=by simpa using k7
 clear k7 k34 k5;go_enter func147,ntmps147;go_wp2;go_ret;exact⟨rfl,hb2.o⟩
def FU{ok:Nat->Prop}(g:af)(a:bN)(bc Bc:Nat)(v:ay)(s:aB)(u1 u2:List Value)(w:World)(kB:gY w bc g a)(ag:w.cell? Bc=some (.pointer (some bc)))(Hh:Bc<w.1.size)(hg:dN ok w g a)(hz:JT g)(vu:∀d∈g.Gb,0<=d.Gc/\d.Gc<=1000000)
  (hv:aN ok w u1 v) (hs:bC ok w u2 s) (hf:wM s) (eE:qD v) (hS:AW w) (XP:v.name.size<=1000000000) (aP:mM g v s=0) (h6:s.kind=6->dD s false=[]) :
  Calls prog 145 #[.agg u1.toArray,.agg u2.toArray,.pointer (some Bc)] w fun e w'=>e=.returned (.int .i64 0)/\Below w.1.size w w':=by
 have jt:=kB.lt;have My:=aa hv;have aC:=aa hs;obtain⟨tv,sv,rfl,ew,fL⟩:=hv;obtain⟨tp,tc,rfl,_,_⟩:=ew.cap;obtain⟨sp,sc,rfl,_,_⟩:=fL.cap;obtain⟨av,Oz,rfl,mC,hst⟩:=hs;obtain⟨ap,ac,rfl,bI,bJ⟩:=mC.cap;obtain⟨eN,eR,rfl,bd,be⟩:=hst.cap;replace mC:=aa mC;clear ew fL hst;have I3:=aa kB;obtain⟨sm,da,_⟩:=kB;have nw:Hid (bX w bc sm g a):=aa da;clear da;replace hg:=aa hg;have HZ:=aa hz;clear hz;replace vu:=aa vu;replace hS:=aa hS;have O6:=aa hf;have hl0:=hf.l0;have hl1:=hf.l1;have bK:=hf.ar;clear hf;replace ag:=aa ag;have hb2:=(ae w (.cells (Tah v tp tc sp sc) 68)).trans ((ae (w.alloc (.cells (Tah v tp tc sp sc) 68)) (.cells (Tae s ap ac eN eR) 114)).mono (ae w _).size);have h0:((w.alloc (.cells (Tah v tp tc sp sc) 68)).alloc (.cells (Tae s ap ac eN eR) 114)).1[w.1.size]?=some (.cells (Tah v tp tc sp sc) 68 (0,0)):=(cj _ _ _ Tc2).trans (b9 w _);have h1:((w.alloc (.cells (Tah v tp tc sp sc) 68)).alloc (.cells (Tae s ap ac eN eR) 114)).1[w.1.size+1]?=some (.cells (Tae s ap ac eN eR) 114 (0,0)):=by
  exact Tb4
 replace hb2:=aa hb2;replace h0:=aa h0;replace h1:=aa h1;have c0:=(hb2.o.cell (p:=Bc) Hh).trans ag.o;have HF:=aa (zZ aP);clear aP;go_enter func145,ntmps145
 go_wp2_with fail;generalize bf:AI (AI w _) _=W2 at *;clear bf c0;refine(LB (ok:=ok) g a bc s _ _ (I3.o.below hb2.o) (hg.o.mv (Mv.of hb2.o)) HZ.o (bC.moves.mv (Mv.of hb2.o) aC.o) Tc1 HF.o.1).mono ?_;rintro e w3 ⟨rfl,hb3⟩;have cJ:=Zbl hb2 hb3;have a8:=Zbk hb3 h0;have a7:=Zbk hb3 h1;clear hb3 h0 h1;have LI:∀wr:World,wr.1[w.1.size+1]?=some (.cells (Tae s ap ac eN eR) 114 (0,0))->∀(j:Nat) (z:Value),[.int .i64 s.start,.int .i64 s.length,.int .i64 s.kind,.slice ap s.Ga.length ac,.int .i64 s.chunk,.slice eN s.stale.length eR,.string s.log,.string s.pool,.int .i64 s.device,.int .i64 s.mode,.int .i64 s.done][j]?=some z->wr.cell? ⟨w.1.size+1,j,none⟩=some z:=fun wr h j z hz=>by
  exact TcH
 have Rm:∀wr:World,wr.1[w.1.size]?=some (.cells (Tah v tp tc sp sc) 68 (0,0))->∀(j:Nat) (z:Value),[.string v.name,.int .u64 v.id,.bool v.hidden,.bool v.ro,.slice tp v.tags.length tc,.slice sp v.Gf.length sc][j]?=some z->wr.cell? ⟨w.1.size,j,none⟩=some z:=fun wr h j z hz=>by
  exact TcH
 replace LI:=aa LI;replace Rm:=aa Rm;have s3:=LI.o w3 a7.o 3 _ rfl;go_wp2;clear s3;go_loopw[23] (fun i wr=>∃k:Nat,k<=s.Ga.length/\i=.int .i64 k/\Below w.1.size w wr/\wr.1[w.1.size]?=some (.cells (Tah v tp tc sp sc) 68 (0,0))/\wr.1[w.1.size+1]?=some (.cells (Tae s ap ac eN eR) 114 (0,0))) (fun i _=>s.Ga.length-(intOf i).toNat)
 exact⟨0,cg _,rfl,cJ.o,a8.o,a7.o⟩;clear a8 a7 cJ;obtain⟨k,hk,rfl,hB,aQ,aR⟩:=hrel;have a8:=aa aQ;clear aQ;have a7:=aa aR;clear aR;by_cases hlt:k<s.Ga.length
 ·obtain⟨r,hr⟩:=aj s.Ga k hlt;obtain⟨b,off,us,rfl,_,cX,ez,Tv,ON⟩:=mC.o.elem hr;obtain rfl:us=_:=Tv;have cT:wr.1[b]?=w.1[b]?:=hB.block b cX;obtain⟨q0,q1,q2⟩:=Mn cT ON;replace hr:=aa hr;clear ON ez cT;go_upto_region 6 with(fail);clear q0 q1 q2;have ox:=aa (b9 wr (.cells (Taw r) 53));have eK:=aa (hB.trans ((ae wr (.cells (Taw r) 53)).mono hB.size));have aK:=aa ((cj wr (.cells (Taw r) 53) _ (aq a8.o)).trans a8.o);have aD:=aa ((cj wr (.cells (Taw r) 53) _ (aq a7.o)).trans a7.o);have mA:=hB.size;generalize bg:AI wr _=W5 at *;generalize bM:wr.1.size=Bs at *;clear bg;refine pI (ok:=ok) _ W5 g a bc sm Bs r.on Bc (cC Hh eK.o.size) ((eK.o.cell (p:=Bc) Hh).trans ag.o) ((eK.o.block bc jt).trans nw.o) (by simp[AN,ox.o]) (aq ox.o) (hg.o.mv (Mv.of eK.o)) HZ.o _ _ rfl rfl (aa ?_) (fun _ _ _ _ _ h=>h);intro am ao b8 W7 tb ah a5 _;have wk:=Zbl eK tb;have au:=Zbk tb aK;have ab:=Zbk tb aD;have aL:=(tb.block _ (aq ox.o)).trans ox.o;have v0:=cr aL 0 _ rfl;have v2:=cr aL 2 _ rfl;have d3:=cr a5 3 _ rfl;have bO:=Da (nm:=r.on) vu.o;clear tb ah a5 aL ox eK aK aD;have aw:=An.1 HF.o.2.1 r (ct hr.o);unfold fI at aw;generalize (bH g.Gb r.on).getD gT=d at *;generalize (bH g.Gb r.on).isSome=dis at *;have bP:=aq ab.o;cases hrv:r.vol with
  |true =>
   rw[hrv]at v0;clear aw;go_upto_region 7 with(fail);go_quiet (fail);go_wp2;go_roundw
   exact⟨k+1,Tc1,Tc5,aT wk.o _,au.o,ab.o⟩;simp[intOf];omega
  |false =>
   rw[hrv]at v0;rw[hrv]at aw;simp only[nj,eh,fk]at aw;obtain⟨⟨c0,c1⟩,c2⟩:=aw;have y:=LI.o W7 ab.o;obtain⟨s0,s1,s2,s3,s4,s5,s6,s7,s8,s9,a9⟩:=IC y;have q0:decide (r.start<0)=false:=by simp;omega
   have q1:decide (d.Gc<r.start)=false:=by simp;omega
   have bQ:IntKind.i64.wrap (d.Gc-r.start)=d.Gc-r.start:=dy _ Tc1;clear y;go_upto_region 7 with(fail);have bh:=aG (cP W7 _ v0) v0;have bi:=aG (cP W7 _ v2) v2;have bk:=aG (cP W7 _ d3) d3;have bl:=aG (cP W7 _ s0) s0;have es1:=aG (cP W7 _ s1) s1;have bm:=aG (cP W7 _ s2) s2;have es3:=aG (cP W7 _ s3) s3;have bp:=aG (cP W7 _ s4) s4;have bq:=aG (cP W7 _ s5) s5;have bs:=aG (cP W7 _ s6) s6;have bu:=aG (cP W7 _ s7) s7;have bw:=aG (cP W7 _ s8) s8;have bz:=aG (cP W7 _ s9) s9;have aO:=aG (cP W7 _ a9) a9;have hen:=zV (k:=s.kind) (l:=s.length) (n:=s.Ga.length) Tc1;have bR:Hid (Below w.1.size w W7):=wk;(refine aU Tc3 Tc3 ?_;(repeat(go_big_quiet_step ((go_at_call 118;exact iH (ji _ _ _ _ _ _ _ _ _ _ _ _ _ _ _ _ Tc1 Tc1 Tc1)))));(with_reducible refine fR ?_);intro wq ia;have kq:=dY ia;clear ia)
   have fy:=Zbl wk kq;have bD:=Zbk kq au;have O7:=Zbk kq ab;clear kq bh bi bk bl es1 bm es3 bp bq bs bu bw bz aO;have q2:decide (d.Gc-r.start<iB s.kind s.length s.Ga.length)=false:=by simp;omega
   go_wp2;go_roundw;exact⟨k+1,Tc1,Tc5,fy.o,bD.o,O7.o⟩;simp[intOf];omega
 have y:=LI.o wr a7.o;obtain⟨s0,s1,s2,s3,s4,s5,s6,s7,s8,s9,a9⟩:=IC y;have y':=Rm.o wr a8.o;obtain⟨v0,v1,v2,v3,v4,v5⟩:=sv6 y';have az:=aa hB;go_wp2_with fail;clear s0 s1 s2 s3 s4 s5 s6 s7 s8 s9 a9 y v0 v1 v2 v3 v4 v5 y';refine(Ng (ok:=ok) v s _ _ _ (aN.moves.mv (Mv.of az.o) My.o) (bC.moves.mv (Mv.of az.o) aC.o) Tc1 (hS.o.below az.o) XP O6.o.p5 O6.o.p7 HF.o.2.2.1).mono ?_;rintro e w4 ⟨rfl,aE⟩;have eI:=Zbl az aE;have aS:=Zbk aE a8;have ai:=Zbk aE a7;clear aE a8 a7 az hB;have s2:=LI.o w4 ai.o 2 _ rfl;by_cases hk6:s.kind=6
 ·have VA:(s.kind==6)=true:=by simpa using hk6
  replace hk6:=aa hk6;go_upto_region 13 with(fail);clear s2;refine oG (ok:=ok) _ w4 g a bc sm _ s.pool Bc (cC Hh eI.o.size) ((eI.o.cell (p:=Bc) Hh).trans ag.o) ((eI.o.block bc jt).trans nw.o) (LI.o w4 ai.o 7 _ rfl) (aq ai.o) (hg.o.mv (Mv.of eI.o)) HZ.o _ _ rfl rfl (aa ?_) (fun _ _ _ _ _ h=>h);intro am ao aF aH b8 W7 tb ah a5 aV;have wk:=Zbl eI tb;have au:=Zbk tb aS;have ab:=Zbk tb ai;have bE:=aa aV;have mb:((aM g.F9 s.pool).getD eY).Gf.length<=1000000:=by
   cases hf:aM g.F9 s.pool with
   |none=>exact cg _
   |some y=>exact(HZ.o.vz y (eV hf)).Gf
  have bF:=aa (HF.o.2.2.2.1 hk6.o);generalize (aM g.F9 s.pool).isSome=fd at *;generalize (aM g.F9 s.pool).getD eY=vx at *;have bL:=cr a5;obtain⟨n0,n1,n2,n3,n4,n5⟩:=sv6 bL;clear bL tb ah a5 aV aS ai eI;go_wp2_with fail;refine(kU vx _ _ bE.o Tc1).mono ?_;rintro e w5 ⟨rfl,hb5⟩;have eK:=Zbl wk hb5;have aK:=Zbk hb5 au;have aD:=Zbk hb5 ab;clear hb5 au ab wk n0 n1 n2 n3 n4 n5;have aW:(eZ vx != 5)=false:=by simpa using bF.o
  have y:=LI.o w5 aD.o;obtain⟨s0,s1,s2,s3,s4,s5,s6,s7,s8,s9,a9⟩:=IC y;go_wp2_with fail;clear s0 s1 s2 s3 s4 s5 s6 s7 s8 s9 a9 y aW;refine(kN (ok:=ok) s false _ _ (bC.moves.mv (Mv.of eK.o) aC.o) Tc1).mono ?_;rintro e w6 ⟨uv,rfl,ak,mw⟩;rw[h6 hk6.o]at ak;obtain⟨up,uc,rfl,_,_⟩:=(ak.rd (ok:=fun _=>True) (fun _ _=>trivial)).cap;have Tq:=Zbl eK mw;clear mw ak;go_wp2;go_loopw[86] (fun i wr=>i=.int .i64 0/\Below w6.1.size w6 wr) (fun _ _=>0)
  exact⟨rfl,bj _ _⟩;obtain⟨rfl,hB⟩:=hrel;have fy:=Zbl Tq hB;exact TcK
 have VA:(s.kind==6)=false:=by simpa using hk6
 clear hk6;have y:=LI.o w4 ai.o;obtain⟨s0,s1,s2,s3,s4,s5,s6,s7,s8,s9,a9⟩:=IC y;go_wp2_with fail;clear s0 s1 s2 s3 s4 s5 s6 s7 s8 s9 a9 y;refine(kN (ok:=ok) s false _ _ (bC.moves.mv (Mv.of eI.o) aC.o) Tc1).mono ?_;rintro e w6 ⟨uv,rfl,ak,mw⟩;have kf:=ak.rd (ok:=fun _=>True) (fun _ _=>trivial);obtain⟨up,uc,rfl,O3,O4⟩:=kf.cap;replace kf:=aa kf;clear ak;have Tq:=Zbl eI mw;clear mw;have ez:(dD s false).length<=1000002:=oL s false Tc1;have HNB:=aa HF.o.2.2.2.2;generalize hL:dD s false=L at *;clear hL;go_wp2;go_loopw[86] (fun i wr=>∃k:Nat,k<=L.length/\i=.int .i64 k/\Below w6.1.size w6 wr) (fun i _=>L.length-(intOf i).toNat)
 exact⟨0,cg _,rfl,bj _ _⟩;obtain⟨k,hk,rfl,hB⟩:=hrel;by_cases hlt:k<L.length
 ·obtain⟨x,hx⟩:=aj L k hlt;obtain⟨b,off,us,rfl,_,cX,TE,Tv,ON⟩:=kf.o.elem hx;obtain rfl:us=_:=Tv;have q0:=(hB.cell (p:=⟨b,off+k*1+0,none⟩) cX).trans (ON 0 _ rfl);rw[fp,fg]at q0;replace hx:=aa hx;have fy:=Zbl Tq hB;obtain⟨g0,g1,g2,g3,g4,g5,g6,g7,g8⟩:=bX.cells (sm:=sm) ((fy.o.block bc jt).trans nw.o);have cc:=(fy.o.cell (p:=Bc) Hh).trans ag.o;clear ON TE;go_wp2_with fail;clear g0 g1 g2 g3 g4 g5 g6 g7 g8 cc;refine(fA (ok:=ok) g a x _ (hg.o.mv (Mv.of fy.o)).F9 HZ.o.vl HZ.o.vz).mono ?_;rintro e w8 ⟨u8,rfl,aX,ah⟩;have O8:=aa aX;obtain⟨t8,s8,rfl,aY,aZ⟩:=aX;obtain⟨am,ao,rfl,_,_⟩:=aY.cap;obtain⟨aF,aH,rfl,_,_⟩:=aZ.cap;clear aY aZ;have aI:Below w6.1.size w6 w8:=hB.trans (ah.mono hB.size);have Ix:=aa aI;have cT:=GW.1 HNB.o x (ct hx.o);unfold dh at cT;simp only[tG,not_or,Bool.not_eq_true]at cT;have mb:((aM g.F9 x).getD eY).Gf.length<=1000000:=by
   cases hf:aM g.F9 x with
   |none=>exact cg _
   |some y=>exact(HZ.o.vz y (eV hf)).Gf
  generalize (aM g.F9 x).isSome=fd at *;generalize (aM g.F9 x).getD eY=vx at *;have hA:=ae w8 (.cells (Tah vx am ao aF aH) 68);have bG:=aa (b9 w8 (.cells (Tah vx am ao aF aH) 68));have ba:=aa (aN.moves.mv (Mv.of hA) O8.o);have pL:=aa (aI.trans (hA.mono aI.size));have VB:=aa (aq (b9 w8 (.cells (Tah vx am ao aF aH) 68)));clear hA ah aI;go_wp2_with fail;generalize DA:AI w8 _=WA at *;clear DA;refine(kU vx _ _ ba.o Tc1).mono ?_;rintro e w9 ⟨rfl,aJ⟩;have J1:=Zbl pL aJ;have VC:=aa (aN.moves.mv (Mv.of aJ) ba.o);have bb:=(aJ.block _ VB.o).trans bG.o;have bL:=cr bb;obtain⟨n0,n1,n2,n3,n4,n5⟩:=sv6 bL;clear bL bb aJ;obtain⟨O9,aW⟩:=cT;go_wp2_with fail;refine(kU vx _ _ VC.o Tc1).mono ?_;rintro e bS ⟨rfl,aA⟩;have Ax:=Zbl J1 aA;clear aA;go_wp2;go_roundw;exact⟨k+1,Tc1,Tc5,Ax.o⟩;simp[intOf];omega
 have fy:=Zbl Tq hB;exact TcK
def TbR{p:Prop}(h:p:=by
 ·rintro e w2 ⟨rfl,hm,_⟩;have HM:=aa hm;clear hm;go_wp2;go_ret2;subst Uc;exact⟨rfl,HA.o.trans (HM.o.none.mono HA.o.size)⟩):p:=h
def GY{ok:Nat->Prop}(g:af)(a:bN)(bc:Nat)(w:World)(kB:gY w bc g a)(hg:dN ok w g a)(hf:UQ g)(hS:AW w)(a5:∀v∈g.F9,∀s∈v.Gf,mM g v s=0)(h6:∀v∈g.F9,∀s∈v.Gf,s.kind=6->dD s false=[]) :
  Calls prog 105 #[.pointer (some bc)] w (OkM w):=by
 have HRE:=aa a5;replace h6:=aa h6;clear a5;have hA:=ae w (.cells #[bc] 152);have HB:=aa (b9 w (.cells #[bc] 152));have HA:=aa hA;clear hA;have I3:=aa (kB.below HA.o);have HG:=aa (hg.mv (Mv.of HA.o));have HS:=aa (hS.below HA.o);replace hf:=aa hf;clear kB hg hS;go_enter func105,ntmps105
 go_wp2_with fail;generalize R0:AI w _=W1 at *;generalize Uc:w.1.size=Bc at *;clear R0;refine(BS (ok:=ok) (F:=fun _=>False) 145 [.pointer (some Bc)] (fun l W=>by go_simp) g a bc (fun _ _=>True) W1 I3.o HG.o hf.o.sz (fun _ f=>f.elim) (fun _ _ _ _ _=>trivial) trivial ?_).mono ?_
 ·intro pre v s post hp W u1 u2 hm _ hv hs;obtain⟨m1,m2⟩:=jZ hp;have hb:=hm.none;refine(FU (ok:=ok) g a bc Bc v s u1 u2 W (I3.o.below hb) ((hb.cell (p:=Bc) (aq HB.o)).trans (by simp[AN,HB.o])) (cC (aq HB.o) hb.size) (HG.o.mv (Mv.of hb)) hf.o.sz hf.o.de hv hs (hf.o.sf v m1 s m2) (hf.o.sz.vz v m1) (HS.o.below hb) (hf.o.vn v m1) (HRE.o v m1 s m2) (h6.o v m1 s m2)).mono ?_;rintro e W' ⟨rfl,a7⟩;exact⟨rfl,cR.of_below a7,trivial⟩
 exact TbR
def Ns{ok:Nat->Prop}(g:af)(a:bN)(bc:Nat)(w:World)(kB:gY w bc g a)(hg:dN ok w g a)(hf:UQ g)(a7:Cu g)(Ud:∀v∈g.F9,∀s∈v.Gf,Ah s)(a5:∀v∈g.F9,∀s∈v.Gf,CX g s=true) :
  Calls prog 106 #[.pointer (some bc)] w (OkM w):=by
 replace a5:=aa a5;have hA:=ae w (.cells #[bc] 152);have hB:=b9 w (.cells #[bc] 152);have hA2:=ae (w.alloc (.cells #[bc] 152)) (.cells #[.func (.func 150) #[] #[.pointer (some w.1.size)]] 200);have HL:=aa (b9 (w.alloc (.cells #[bc] 152)) (.cells #[.func (.func 150) #[] #[.pointer (some w.1.size)]] 200));have HB:=aa ((hA2.block _ (aq hB)).trans hB);have HA:=aa (hA.trans (hA2.mono hA.size));clear hA hA2 hB;have I3:=aa (kB.below HA.o);have HG:=aa (hg.mv (Mv.of HA.o));have HF:=aa hf;have Qc:=aa a7;replace Ud:=aa Ud;clear kB hg hf a7;go_enter func106,ntmps106
 go_wp2_with fail;generalize R0:AI (AI w _) _=W1 at *;rw[cW]at HL;have hne:w.1.size<w.1.size+1:=Nat.lt_succ_self _;generalize a9:w.1.size+1=Bl at *;generalize Uc:w.1.size=Bc at *;clear R0;refine(BS (ok:=ok) (F:=fun _=>False) 152 [.pointer (some Bl),.pointer (some Bc)] (fun l W=>by go_simp) g a bc (fun _ _=>True) W1 I3.o HG.o HF.o.sz (fun _ f=>f.elim) (fun _ _ _ _ _=>trivial) trivial ?_).mono ?_
 ·intro pre v s post hp W u1 u2 hm _ hv hs;obtain⟨m1,m2⟩:=jZ hp;have hb:=hm.none;refine(MS (ok:=ok) g a bc Bc Bl v s u1 u2 W (I3.o.below hb) ((hb.cell (p:=Bc) (aq HB.o)).trans (by simp[AN,HB.o])) (cC (aq HB.o) hb.size) ((hb.cell (p:=Bl) (aq HL.o)).trans (by simp[AN,HL.o])) (cC (aq HL.o) hb.size) (HG.o.mv (Mv.of hb)) HF.o.sz Qc.o HF.o.ext hv hs (Ud.o v m1 s m2) (a5.o v m1 s m2)).mono ?_;rintro e W' ⟨rfl,a8⟩;exact⟨rfl,cR.of_below a8,trivial⟩
 exact TbR
def MH{l:List ByteArray}(h:eP l=0):l.length<=8/\∀k,k<l.length->kV l k=true:=by
 unfold eP at h;split at h
 ·cases h
 split at h
 ·rename_i h2;exact⟨Tc1,fun k hk=>An.1 h2 k (EV.2 hk)⟩
 cases h
def Na(h:qX g=0):jo g.name=true/\lm g/\iR g/\eP g.tags=0/\g.history.all lL=true:=by
 unfold qX at h;split at h
 ·cases h
 split at h
 ·cases h
 split at h
 ·cases h
 split at h
 ·rename_i h4;exact absurd h h4
 split at h
 ·rename_i h1 h2 h3 h4 h5;exact⟨TdD,Decidable.byContradiction h2,Decidable.byContradiction h3,by simpa using h4,h5⟩
 cases h
def Tcg{p:Prop}(h:p:=by
 go_wp2;go_roundw;exact⟨k+1,Tc1,Tc5,cm.o⟩;simp[intOf];omega):p:=h
def EC{ok:Nat->Prop}(l:List ByteArray)(v:Value)(w:World)(hr:ck aF 1 ok w [v] l)(hl:l.length<=1000000)(mu:∀s∈l,s.size<=9223372036854775807)(ht:eP l=0) :
  Calls prog 137 #[v] w fun e w'=>e=.returned (.int .i64 0)/\Below w.1.size w w':=by
 obtain⟨p,c,rfl,af,zc⟩:=hr.cap;replace hr:=aa hr;replace mu:=aa mu;have HT:=aa (MH ht);clear ht;go_enter func137,ntmps137;have hd:decide ((8:Int)<(l.length:Int))=false:=by have:=HT.o.1;simp;omega
 go_wp2;go_loopw[10,3,4] (fun i _ _ wr=>∃k:Nat,k<=l.length/\i=.int .i64 k/\Below w.1.size w wr) (fun i _ _ _=>l.length-(intOf i).toNat)
 exact⟨0,cg _,rfl,bj _ _⟩;obtain⟨k,hk,rfl,hB⟩:=hrel;by_cases hlt:k<l.length
 ·obtain⟨s,hs⟩:=aj l k hlt;obtain⟨b,off,us,rfl,_,cX,ez,eE,ON⟩:=hr.o.elem hs;obtain rfl:us=_:=eE;have q0:=(hB.cell (p:=⟨b,off+k*1+0,none⟩) cX).trans (ON 0 _ rfl);rw[fp,fg]at q0;have HG:Hid (l.getD k ⟨#[]⟩=s):=aa (by simp[hs]);have Ud:=mu.o s (ct hs);clear ON ez hs;have a5:=HT.o.2 k hlt;unfold kV at a5;rw[HG.o,eh,tG,fk]at a5;replace a5:=aa a5;go_wp2_with fail;refine(Af s _ Ud).mono ?_;rintro e w2 ⟨rfl,hb2⟩;rw[a5.o.1];have cm:=aa (hB.trans (hb2.mono hB.size));clear hb2;by_cases hk0:k<1
  ·exact Tcg
  obtain⟨r,a8⟩:=aj l (k-1) Tc1;obtain⟨b',a9,ab,e',_,ae,TE,Tv,a7⟩:=hr.o.elem a8;obtain rfl:ab=_:=Tv;injection e' with e';injection e' with eb eo;subst eb;subst eo;have q1:=(cm.o.cell (p:=⟨b,off+(k-1)*1+0,none⟩) cX).trans (a7 0 _ rfl);rw[fp,fg]at q1;have hc:Op.bytesLess r.toList s.toList=true:=by
   have:=a5.o.2.resolve_left Tc1;rwa[show l.getD (k-1) ⟨#[]⟩=r by simp[a8]]at this
  clear a7 TE ae a8 q0;exact Tcg
 go_wp2;go_ret;exact⟨rfl,hB⟩
def TcT{p:Prop}(h:p:=by
 exact Tc0):p:=h
def Tcf{p:Prop}(h:p:=by
 exact TcT):p:=h
def Nw{ok:Nat->Prop}(g:af)(a:bN)(bc:Nat)(w:World)(kB:gY w bc g a)(hg:dN ok w g a)(hz:UT g)(hS:AW w)(he:qX g=0) :
  Calls prog 101 #[.pointer (some bc)] w (OkM w):=by
 have jt:=kB.lt;obtain⟨sm,da,a7⟩:=kB;have nw:Hid (bX w bc sm g a):=aa da;clear da a7;obtain⟨g0,g1,g2,g3,g4,g5,g6,g7,g8⟩:=bX.cells nw.o;have HT:=aa hg.tags;have HH:=aa hg.hist;have HZ:=aa hz;have HS:=aa hS;have az:=hz.hl;have ab:=hz.name;obtain⟨vp,vc,sT,aA,aB⟩:=hg.hist.cap;injection sT with e1 e2 e3;obtain⟨p6,c6,h6,ag,ah⟩:=hg.Gb.cap;obtain⟨p7,c7,h7,ai,ak⟩:=hg.F9.cap;clear hg hz hS;obtain⟨ID,a8,a9,G3,G4,Ge,Hb,Hc⟩:=a;dsimp only at e1 e2 e3 g0 g1 g2 g3 g4 g5 g6 g7 g8 h6 h7;subst e1;subst e3;clear e2 h6 h7 ag ah ai ak;have HE:=aa (Na he);clear he;have CN:=aa (b9 w (.cells (Tap g ID a8 a9 G3 G4 Ge Hb Hc) 31));have hA:=ae w (.cells (Tap g ID a8 a9 G3 G4 Ge Hb Hc) 31);have cU:=aa hA;have am:=aa (HS.o.below hA);clear hA;go_enter func101,ntmps101
 go_wp2_with fail;clear g0 g1 g2 g3 g4 g5 g6 g7 g8;generalize R0:AI w _=W1 at *;have ao:w.1.size=w.1.size:=rfl;generalize aC:w.1.size=B at CN;clear R0 ao;refine(fT g.name W1 ab am.o).mono ?_;rintro e w2 ⟨rfl,hb2⟩;rw[HE.o.1];have cm:=Zbl cU hb2;have pH:=Zbk hb2 CN;clear hb2 cU CN;have n2:=cr pH.o 2 _ rfl;have n3:=cr pH.o 3 _ rfl;have n4:=cr pH.o 4 _ rfl;have n5:=cr pH.o 5 _ rfl;have n6:=cr pH.o 6 _ rfl;have n7:=cr pH.o 7 _ rfl;have n8:=cr pH.o 8 _ rfl;obtain⟨r1,r2,r3,r4,r5,r6⟩:=HE.o.2.1;obtain⟨l1,l2,l3⟩:=HE.o.2.2.1;have d6:decide ((8:Int)<(g.Gb.length:Int))=false:=by simp;omega
 have d7:decide ((32:Int)<(g.F9.length:Int))=false:=by simp;omega
 have d8:decide ((32:Int)<(g.history.length:Int))=false:=by simp;omega
 go_wp2_with fail;refine(EC (ok:=ok) g.tags _ w2 ((ck.moves aF.moves).mv (Mv.of cm.o) HT.o) HZ.o.tags.1 HZ.o.tags.2 HE.o.2.2.2.1).mono ?_;rintro e w3 ⟨rfl,hb3⟩;have cJ:=Zbl cm hb3;have aD:w3.cell? (Tac B 8)=some (.slice Hb g.history.length Hc):=by simp[AN,(hb3.block _ (aq pH.o)).trans pH.o]
 clear hb3 cm pH n2 n3 n4 n5 n6 n7 n8 d6 d7 d8 l1 l2 r1 r2 r3 r4 r5 r6;go_wp2_with fail;go_loopw[72,7] (fun i _ wr=>∃k:Nat,k<=g.history.length/\i=.int .i64 k/\Below w.1.size w wr) (fun i _ _=>g.history.length-(intOf i).toNat)
 exact⟨0,cg _,rfl,cJ.o⟩;clear cJ;obtain⟨k,hk,rfl,hB⟩:=hrel;by_cases hlt:k<g.history.length
 ·obtain⟨h,hh⟩:=aj g.history k hlt;obtain⟨b,off,us,hbo,gR,cX,ez,eE,ON⟩:=HH.o.elem hh;subst hbo;obtain rfl:us=_:=eE;obtain⟨hn,hid,TD⟩:=h;have cT:wr.1[b]?=w.1[b]?:=hB.block b cX;obtain⟨q0,q1,q2⟩:=Mn cT ON;have au:=HZ.o.hist _ (ct hh);have a5:=An.1 HE.o.2.2.2.2 _ (ct hh);unfold lL at a5;rw[eh,fk]at a5;replace a5:=aa a5;clear ON ez cT hh;have av:=aa ((HS.o.below hB).below (ae wr (.cells #[.string hn,.int .u64 hid,.int .i64 TD] 73)));have eI:=aa (hB.trans ((ae wr (.cells #[.string hn,.int .u64 hid,.int .i64 TD] 73)).mono hB.size));have VG:=aa (b9 wr (.cells #[.string hn,.int .u64 hid,.int .i64 TD] 73));go_wp2_with fail;clear q0 q1 q2;generalize aw:AI wr _=W4 at *;generalize ay:wr.1.size=Bh at *;clear aw ay hB;refine(fT hn W4 au av.o).mono ?_;rintro e w5 ⟨rfl,hb5⟩;rw[show jo hn=true from a5.o.1];have eK:=Zbl eI hb5;have m2:w5.cell? (Tac Bh 2)=some (.int .i64 TD):=by simp[AN,(hb5.block _ (aq VG.o)).trans VG.o]
  clear hb5 eI VG;obtain⟨s1,s2⟩:0<=TD/\TD<=1048575:=a5.o.2;exact Tcf
 go_wp2;go_ret2;exact⟨rfl,hB⟩
def Tbw{p:Prop}(h:p:=by
 split at h
 ·cases h
 split at h
 ·cases h
 split at h
 ·cases h
 rename_i h1 h2 h3;exact⟨TdD,Bool.eq_false_iff.2 h2,Decidable.byContradiction h3,h⟩):p:=h
def MU{d:az}(h:pg g k d=0):jo d.name=true/\(g.Gb.take k).any (dG d)=false/\jQ g d/\eP d.tags=0:=by
 unfold pg at h;exact Tbw
def NC{v:ay}(h:yH g k v=0):nE v=true/\(g.F9.take k).any (fC v)=false/\(1<=v.Gf.length/\v.Gf.length<=64)/\eP v.tags=0:=by
 unfold yH at h;exact Tbw
def Td9{p:Prop}(h:p:=by simp[World.cell?,sX.o]):p:=h
def Nf{ok:Nat->Prop}(g:af)(a:bN)(bc:Nat)(w:World)(kB:gY w bc g a)(hg:dN ok w g a)(hz:UT g)(hx:1<=g.Gd/\g.Gd<=1024)(hS:AW w)(vu:∀(k:Nat) (d:az),g.Gb[k]?=some d->pg g k d=0) :
  Calls prog 102 #[.pointer (some bc)] w (OkM w):=by
 have kj:=aa fun k d h=>MU (vu k d h);clear vu;have jt:=kB.lt;obtain⟨sm,da,a5⟩:=kB;have nw:Hid (bX w bc sm g a):=aa da;clear da a5;obtain⟨g0,g1,g2,g3,g4,g5,g6,g7,g8⟩:=bX.cells nw.o;have HG:=aa hg.Gb;have HZ:=aa hz;have HX:=aa hx;have HS:=aa hS;have CD:=hz.dl;obtain⟨vp,vc,sT,ao,au⟩:=hg.Gb.cap;clear hg hz hx hS;injection sT with e1 e2 e3
 obtain⟨ID,av,aw,G3,G4,Ge,Hb,Hc⟩:=a;dsimp only at e1 e2 e3 g0 g1 g2 g3 g4 g5 g6 g7 g8;subst e1;subst e3;clear e2;go_enter func102,ntmps102;go_wp2;clear g0 g1 g2 g3 g4 g5 g6 g7 g8
 go_loopw[14,4,5,6,7] (fun i _ _ _ _ wr=>∃k:Nat,k<=g.Gb.length/\i=.int .i64 k/\Below w.1.size w wr) (fun i _ _ _ _ _=>g.Gb.length-(intOf i).toNat)
 exact⟨0,cg _,rfl,bj _ _⟩;obtain⟨k,hk,rfl,hB⟩:=hrel;by_cases hlt:k<g.Gb.length
 ·obtain⟨d,hd⟩:=aj g.Gb k hlt;have HD:=aa (kj.o k d hd);obtain⟨b,off,us,rfl,gR,cX,ez,eE,ON⟩:=HG.o.elem hd;have a9:=ct hd;have Pa:=HZ.o.disk d a9;have ai:=Pa.1;have Pb:=aa Pa.2;obtain⟨tv,rfl,ew⟩:=eE;obtain⟨tp,tc,rfl,_,_⟩:=ew.cap;have Hx:=aa ew;have cT:wr.1[b]?=w.1[b]?:=hB.block b cX;obtain⟨q0,q1,q2,q3,q4,q5,q6⟩:=OD cT ON;clear ON ez cT ew Pa a9 hd;have sX:=aa (b9 wr (.cells (Tai d tp tc) 51));have hA:=ae wr (.cells (Tai d tp tc) 51);have cU:=aa (hB.trans (hA.mono hB.size));have ab:=((cU.o.block bc jt).trans nw.o);obtain⟨g0,g1,g2,g3,g4,g5,g6,g7,g8⟩:=bX.cells (sm:=sm) ab;clear hA ab
  go_wp2_with fail;clear q0 q1 q2 q3 q4 q5 q6 g0 g1 g2 g3 g4 g5 g6 g7 g8;generalize R0:AI wr _=W1 at *;generalize ak:wr.1.size=Bd at *;clear R0 ak;have a7:(g.Gb.take k).length=k:=by simp;omega
  have Fl:=sN (ok:=ok) (g.Gb.take k) d (some ⟨b,off,none⟩) G3 Bd W1 (by rw[a7];exact ck.take ((ck.moves aO.moves).mv (Mv.of cU.o) HG.o) k hk) Tc1 Td9 Td9 (aq sX.o);rw[a7]at Fl;refine Fl.mono ?_;clear Fl a7 hB;rintro e w2 ⟨rfl,hb2⟩;rw[HD.o.2.1];have cm:=Zbl cU hb2;have B8:=Zbk hb2 sX;clear hb2 cU sX;have n0:=cr B8.o 0 _ rfl;go_wp2_with fail;refine(fT d.name w2 ai (HS.o.below cm.o)).mono ?_;rintro e w3 ⟨rfl,hb3⟩;rw[HD.o.1];have cJ:=Zbl cm hb3;have n9:=Zbk hb3 B8;clear hb3 cm B8 n0;have n0:=cr n9.o 0 _ rfl;have n2:=cr n9.o 2 _ rfl;have n3:=cr n9.o 3 _ rfl;have n6:=cr n9.o 6 _ rfl;obtain⟨-,-,-,g3,-,-,-,-,-⟩:=bX.cells (sm:=sm) ((cJ.o.block bc jt).trans nw.o);have ay:=HX.o.1;have hx2:=HX.o.2;obtain⟨r1,r2,r3,r4,r5⟩:=HD.o.2.2.1;have m1:0<=d.Gc*g.Gd:=oA r3 Tc1;have w1:IntKind.i64.wrap (d.Gc*g.Gd)=d.Gc*g.Gd:=dy _ Tc1;have w2:IntKind.i64.wrap (d.first+d.Gc*g.Gd)=d.first+d.Gc*g.Gd:=dy _ Tc1;have k1:decide (d.first<0)=false:=cN Tc1;have k2:decide (65536<d.first)=false:=cN Tc1;have k3:decide (d.Gc<0)=false:=cN Tc1;have k4:decide (4096<d.Gc)=false:=cN Tc1;have k5:decide (65536<d.first+d.Gc*g.Gd)=false:=cN Tc1;go_upto_region 9 with(fail);go_quiet (fail);clear k1 k2 k3 k4 k5 w1 w2 m1 r1 r2 r3 r4 r5 n2 n3 g3;have ag:=fun n=>aT cJ.o n;have Rq:∀n,(w3.drewN n).1[Bd]?=_:=fun n=>n9.o;have am:∀n,(w3.drewN n).cell? Bd=some (.string d.name):=fun n=>n0
  go_wp2_with fail;clear cJ n9 n0 n6;generalize a8:w3.drewN _=W4 at *;have eI:Hid (Below w.1.size w W4):=aa (a8 ▸ ag _);have ah:=aa (a8 ▸ Rq _);clear ag Rq am a8;refine(EC (ok:=ok) d.tags _ W4 ((ck.moves aF.moves).mv (Mv.of eI.o) Hx.o) Pb.o.1 Pb.o.2 HD.o.2.2.2).mono ?_;rintro e w5 ⟨rfl,hb5⟩;have eK:=Zbl eI hb5;have VH:=Zbk hb5 ah;clear hb5 eI ah;have n0:=cr VH.o 0 _ rfl;exact Tcf
 obtain rfl:k=g.Gb.length:=by omega
 go_wp2;go_ret2;exact⟨rfl,hB⟩
def LQ{ok:Nat->Prop}(g:af)(a:bN)(bc:Nat)(w:World)(kB:gY w bc g a)(hg:dN ok w g a)(hz:UT g)(hS:AW w)(a8:∀(k:Nat) (v:ay),g.F9[k]?=some v->yH g k v=0) :
  Calls prog 103 #[.pointer (some bc)] w (OkM w):=by
 have ai:=aa fun k v h=>NC (a8 k v h);clear a8;have jt:=kB.lt;obtain⟨sm,da,a5⟩:=kB;have nw:Hid (bX w bc sm g a):=aa da;clear da a5;obtain⟨g0,g1,g2,g3,g4,g5,g6,g7,g8⟩:=bX.cells nw.o;have HG:=aa hg.F9;have HZ:=aa hz;have HS:=aa hS;have CD:=hz.vl;obtain⟨vp,vc,sT,am,ao⟩:=hg.F9.cap;clear hg hz hS;injection sT with e1 e2 e3
 obtain⟨ID,au,av,G3,G4,Ge,Hb,Hc⟩:=a;dsimp only at e1 e2 e3 g0 g1 g2 g3 g4 g5 g6 g7 g8;subst e1;subst e3;clear e2;go_enter func103,ntmps103;go_wp2;clear g0 g1 g2 g3 g4 g5 g6 g7 g8
 go_loopw[14,4,5,6,7] (fun i _ _ _ _ wr=>∃k:Nat,k<=g.F9.length/\i=.int .i64 k/\Below w.1.size w wr) (fun i _ _ _ _ _=>g.F9.length-(intOf i).toNat)
 exact⟨0,cg _,rfl,bj _ _⟩;obtain⟨k,hk,rfl,hB⟩:=hrel;by_cases hlt:k<g.F9.length
 ·obtain⟨v,hd⟩:=aj g.F9 k hlt;have HD:=aa (ai.o k v hd);obtain⟨b,off,us,rfl,gR,cX,ez,eE,ON⟩:=HG.o.elem hd;have a9:=ct hd;have Pa:=HZ.o.vol v a9;have ab:=Pa.1;have Pb:=aa Pa.2;obtain⟨tv,sv,rfl,ew,fL⟩:=eE;obtain⟨tp,tc,rfl,_,_⟩:=ew.cap;obtain⟨sp,sc,rfl,hs1,hs2⟩:=fL.cap;have Hx:=aa ew;have cT:wr.1[b]?=w.1[b]?:=hB.block b cX;obtain⟨q0,q1,q2,q3,q4,q5⟩:=sw6 cT ON;clear ON ez cT ew fL Pa a9 hd;have sX:=aa (b9 wr (.cells (Tah v tp tc sp sc) 68));have hA:=ae wr (.cells (Tah v tp tc sp sc) 68);have cU:=aa (hB.trans (hA.mono hB.size));have ag:=((cU.o.block bc jt).trans nw.o);obtain⟨g0,g1,g2,g3,g4,g5,g6,g7,g8⟩:=bX.cells (sm:=sm) ag;clear hA ag
  go_wp2_with fail;clear q0 q1 q2 q3 q4 q5 g0 g1 g2 g3 g4 g5 g6 g7 g8;generalize R0:AI wr _=W1 at *;generalize ak:wr.1.size=Bd at *;clear R0 ak;have a7:(g.F9.take k).length=k:=by simp;omega
  have Fl:=vH (ok:=ok) (g.F9.take k) v (some ⟨b,off,none⟩) Ge Bd W1 (by rw[a7];exact ck.take ((ck.moves aN.moves).mv (Mv.of cU.o) HG.o) k hk) Tc1 Td9 Td9 (aq sX.o);rw[a7]at Fl;refine Fl.mono ?_;clear Fl a7 hB;rintro e w2 ⟨rfl,hb2⟩;rw[HD.o.2.1];have cm:=Zbl cU hb2;have B8:=Zbk hb2 sX;clear hb2 cU sX;have n0:=cr B8.o 0 _ rfl;have HH:Hid (∀b,v.hidden=b->w2.cell? (Tac Bd 2)=some (.bool b)):=aa (by rintro b rfl;simp[AN,B8.o]);have Q5:=HD.o.1;unfold nE at Q5;cases hvh:v.hidden
  all_goals
   have n2:=HH.o _ hvh;rw[hvh]at Q5;simp only[ej,fY,pj]at Q5;replace Q5:=aa Q5;go_wp2_with fail
   first|refine(qO v.name w2 ab (HS.o.below cm.o)).mono ?_|refine(fT v.name w2 ab (HS.o.below cm.o)).mono ?_
   rintro e w3 ⟨rfl,hb3⟩;have cJ:=Zbl cm hb3;have n9:=Zbk hb3 B8;clear hb3 cm B8 n0;have ah:w3.cell? (Tac Bd 2)=some (.bool v.hidden):=by simp[AN,n9.o]
   rw[hvh]at ah;rw[Q5.o];clear hvh n2 Q5 HH;have n5:=cr n9.o 5 _ rfl;have n4:=cr n9.o 4 _ rfl;have hr:=HD.o.2.2.1;have k1:decide ((v.Gf.length:Int)<1)=false:=cN Tc1;have k2:decide ((64:Int)<(v.Gf.length:Int))=false:=cN Tc1;clear hr;go_wp2_with fail;refine(EC (ok:=ok) v.tags _ w3 ((ck.moves aF.moves).mv (Mv.of cJ.o) Hx.o) Pb.o.1 Pb.o.2 HD.o.2.2.2).mono ?_;rintro e w5 ⟨rfl,hb5⟩;have eK:=Zbl cJ hb5;clear hb5 cJ n9 ah n4 n5 k1 k2;exact Tcf
 obtain rfl:k=g.F9.length:=by omega
 go_wp2;go_ret2;exact⟨rfl,hB⟩
attribute [local go_sem] run_makeMap_plain
def Tba{p:Prop}(h:p:=by
 have hlk:=gm.look Hj.o x hxs;obtain⟨w',hst,hc',hg',hz'⟩:=gm.store Hj.o hll x hxs;have HC':=aa hc';clear hc';have HX:=aa (take_snoc' L m x hx);have Pg:=aa (xd.o.trans (cR.grown hg') (fun i e=>.inl e));clear Ry Pf hx hg' hz';generalize iJ _ x=c at *;go_wp2;go_roundw;exact⟨m+1,Tc1,Tc5,Pg.o,by rw[HX.o,<- cV];exact HC'.o⟩;simp[intOf];omega):p:=h
def NI{ok:Nat->Prop}(g:af)(a:bN)(bc:Nat)(w:World)(kB:gY w bc g a)(hg:dN ok w g a)(hz:JT g)(hU:∀pool,(dA (aA g.F9) pool).length<=1000000)
  (hN:∀v∈g.F9,∀s∈v.Gf,∀pool,∀x∈dD s pool,x.size<=maxLen) (hV:∀v∈g.F9,v.name.size<=maxLen) (ai:∀v∈g.F9,yt g v=0) :
  Calls prog 108 #[.pointer (some bc)] w (OkM w):=by
 replace ai:=aa ai;have jt:=kB.lt;obtain⟨sm,da,_⟩:=kB;have nw:Hid (bX w bc sm g a):=aa da;clear da;have HG:=aa hg.F9;have HZ:=aa hz;replace hU:=aa hU;replace hN:=aa hN;replace hV:=aa hV;have mb:=hz.vl;obtain⟨vp,vc,sT,aR,aS⟩:=hg.F9.cap;clear hg hz;injection sT with e1 e2 e3;obtain⟨ID,aT,aU,G3,G4,Ge,Hb,Hc⟩:=a;dsimp only at e1 e2 e3;subst e1;subst e3;clear e2;have hA1:=ae w (.map #[] 0);have hA2:=ae (w.alloc (.map #[] 0)) (.map #[] 0);have ak:=bi.made prog 9 w;have am:=bi.made prog 9 (w.alloc (.map #[] 0));rw[cW]at am;have HP:=aa (gm.nil (ak.block (hA2.block _ ak.lt)));have HA:=aa (gm.nil am);have HB:=aa (hA1.trans (hA2.mono hA1.size));clear hA1 hA2 ak am;obtain⟨-,-,-,-,-,-,-,g7,-⟩:=bX.cells (sm:=sm) ((HB.o.block bc jt).trans nw.o);go_enter func108,ntmps108
 go_upto_region 3 with(fail);generalize R0:AI (AI w _) _=W1 at *;clear R0 g7;go_loopw[24] (fun i wr=>∃k:Nat,k<=g.F9.length/\i=.int .i64 k/\Below w.1.size w wr/\gm wr w.1.size (dA (aA (g.F9.take k)) false)/\gm wr (w.1.size+1) (dA (aA (g.F9.take k)) true)) (fun i _=>g.F9.length-(intOf i).toNat)
 exact⟨0,cg _,rfl,HB.o,HP.o,HA.o⟩;clear HB HP HA;obtain⟨k,hk,rfl,hB,hp,ha⟩:=hrel;have HP:=aa hp;clear hp;have HA:=aa ha;clear ha;by_cases hlt:k<g.F9.length
 ·obtain⟨v,hv⟩:=aj g.F9 k hlt;obtain⟨b,off,us,rfl,gR,cX,ez,eE,ON⟩:=HG.o.elem hv;have Zr:=ct hv;have ao:=HZ.o.vz v Zr;have GF:=ao.Gf;have Zu:=aa ao.seg;have aG:=aa (hN.o v Zr);obtain⟨tv,sv,rfl,ew,fL⟩:=eE;obtain⟨tp,tc,rfl,_,_⟩:=ew.cap;obtain⟨sp,sc,rfl,au,aw⟩:=fL.cap;have cT:wr.1[b]?=w.1[b]?:=hB.block b cX;obtain⟨q0,q1,q2,q3,q4,q5⟩:=sw6 cT ON;replace hv:=aa hv;replace fL:=aa fL;clear ON ez cT ew ao Zr;have hA:=ae wr (.cells (Tah v tp tc sp sc) 68);have cU:=aa (hB.trans (hA.mono hB.size));have aD:=aa (HP.o.block (hA.block _ HP.o.lt));have Ub:=aa (HA.o.block (hA.block _ HA.o.lt));clear hA;go_upto_region 6 with(fail);clear q0 q1 q2 q3 q4 q5;generalize R0:AI wr _=W1 at *;generalize ay:wr.1.size=Bv at *;clear R0 ay hB HP HA;go_loopw[31] (fun i wi=>∃j:Nat,j<=v.Gf.length/\i=.int .i64 j/\Below w.1.size w wi/\gm wi w.1.size (dA (bW g.F9 k j v) false)/\gm wi (w.1.size+1) (dA (bW g.F9 k j v) true)) (fun i _=>v.Gf.length-(intOf i).toNat)
  exact⟨0,cg _,rfl,cU.o,by rw[eQ];exact aD.o,by rw[eQ];exact Ub.o⟩;clear cU aD Ub;obtain⟨j,hj,rfl,hB,hp,ha⟩:=hrel;have HP:=aa hp;clear hp;have HA:=aa ha;clear ha;by_cases hlt2:j<v.Gf.length
  ·obtain⟨s,hs⟩:=aj v.Gf j hlt2;obtain⟨b2,off2,aV,qt,I0,C2,B5,C3,a8⟩:=fL.o.elem hs;subst qt;have aE:=aa C3;have az:=ct hs;have a9:=(Zu.o s az).1;have Yy:=aa (aG.o s az);have Ug:=aa (jB g.F9 k j v s hv.o hs);have sY:=aa (fG g.F9 k j v s hs);obtain⟨av,Oz,rfl,mC,hst⟩:=C3;obtain⟨ap,ac,rfl,_,_⟩:=mC.cap;obtain⟨eN,eR,rfl,_,_⟩:=hst.cap;have AD:wr.1[b2]?=w.1[b2]?:=hB.block b2 C2;obtain⟨q0,q1,q2,q3,q4,q5,q6,q7,q8,q9,aH⟩:=ak5 AD a8;clear hs az a8 B5 AD mC hst;have lj:=aa (b9 wr (.cells (Tae s ap ac eN eR) 114));have hA:=ae wr (.cells (Tae s ap ac eN eR) 114);have cm:=aa (hB.trans (hA.mono hB.size));have Pe:=HP.o.lt;have aI:=HA.o.lt;have aB:=aa (HP.o.block (hA.block _ Pe));have HA2:=aa (HA.o.block (hA.block _ aI));clear hA;go_wp2_with fail;clear q0 q1 q2 q3 q4 q5 q6 q7 q8 q9 aH;generalize aJ:AI wr _=W2 at *;generalize aK:wr.1.size=Bs at *;clear aJ aK hB HP HA;refine(kN (ok:=ok) s false _ W2 (bC.moves.mv (Mv.of cm.o) aE.o) a9).mono ?_;rintro e w3 ⟨uv,rfl,a7,hb3⟩;have VY:Bs<W2.1.size:=aq lj.o;have kf:=a7.rd (ok:=fun q=>W2.1.size<=q) (fun q e=>(fh a7 q e).1);obtain⟨up,uc,rfl,O3,O4⟩:=kf.cap;have B2:=aa kf;clear kf a7;have cJ:=Zbl cm hb3;have Uh:=aa (aB.o.block (hb3.block _ aB.o.lt));have OT:=aa (HA2.o.block (hb3.block _ HA2.o.lt));have nB:=aa ((hb3.block _ VY).trans lj.o);clear hb3 cm aB HA2 lj;have HLN:=aa (Yy.o false);have hle:=wu Ug.o false;have ab:=hU.o false;generalize hL:dD s false=L at *;go_wp2_with fail;go_loopw[38] (fun i wi=>∃m:Nat,m<=L.length/\i=.int .i64 m/\cR (fun q=>q=w.1.size) w3 wi/\gm wi (w.1.size) (dA (bW g.F9 k j v) false++L.take m)) (fun i _=>L.length-(intOf i).toNat)
   exact⟨0,cg _,rfl,cR.refl _ _,by rw[iv,eM];exact Uh.o⟩;obtain⟨m,hm,rfl,oY,ag⟩:=hrel;have xd:=aa oY;clear oY;have Hj:=aa ag;clear ag;by_cases hlt3:m<L.length
   ·obtain⟨x,hx⟩:=aj L m hlt3;obtain⟨bu,ou,uu,rfl,aL,VZ,Pf,V0,Ry⟩:=B2.o.elem hx;obtain rfl:uu=_:=V0;have q0:=(xd.o.cell (p:=⟨bu,ou+m*1+0,none⟩) VZ (by show ¬bu=_;omega)).trans (Ry 0 _ rfl);rw[fp,fg]at q0;have hxs:=HLN.o x (ct hx);have hll:(dA (bW g.F9 k j v) false++L.take m).length<=1000000:=by rw[cD,ey];omega
    have aM:=Ag (dA (bW g.F9 k j v) false++L.take m) x;exact Tba
   obtain rfl:m=L.length:=by omega
   rw[cI]at Hj;have HW:=aa (cJ.o.trans ((xd.o.below (B:=w.1.size) (by have:=cJ.o.size;omega) (fun q e=>by omega))));have ah:=aa (OT.o.block (xd.o.block _ OT.o.lt Tc1));have V1:=aq nB.o;have Tx:=aa ((xd.o.block _ V1 Tc1).trans nB.o);have V2:Hid (dA (bW g.F9 k (j+1) v) false=dA (bW g.F9 k j v) false++L):=aa (by rw[sY.o,qW,hL]);have aC:=aa Hj.o;clear xd Hj B2 HLN hle ab cJ Uh OT nB hlt3 hm hL;generalize dA (bW g.F9 k j v) false++L=LF at *;have sL:=cr Tx.o;obtain⟨s0,s1,s2,s3,s4,s5,s6,s7,s8,s9,aN⟩:=IC sL;clear sL;go_wp2_with fail;clear s0 s1 s2 s3 s4 s5 s6 s7 s8 s9 aN;refine(kN (ok:=ok) s true _ wr (bC.moves.mv (Mv.of HW.o) aE.o) a9).mono ?_;rintro e w5 ⟨uv,rfl,a7,hb5⟩;have Ph:=HW.o.size;have kf:=a7.rd (ok:=fun q=>wr.1.size<=q) (fun q e=>(fh a7 q e).1);obtain⟨aW,aX,rfl,Yz,YA⟩:=kf.cap;have B2:=aa kf;clear kf a7;have aY:=ah.o.lt;have eK:=Zbl HW hb5;have YB:=aa (aC.o.block (hb5.block _ aC.o.lt));have aO:=aa (ah.o.block (hb5.block _ ah.o.lt));clear hb5 HW aC ah Tx;have HLN:=aa (Yy.o true);have hle:=wu Ug.o true;have ab:=hU.o true;generalize hL:dD s true=L at *;go_wp2_with fail;go_loopw[50] (fun i wi=>∃m:Nat,m<=L.length/\i=.int .i64 m/\cR (fun q=>q=w.1.size+1) w5 wi/\gm wi (w.1.size+1) (dA (bW g.F9 k j v) true++L.take m)) (fun i _=>L.length-(intOf i).toNat)
   exact⟨0,cg _,rfl,cR.refl _ _,by rw[iv,eM];exact aO.o⟩;obtain⟨m,hm,rfl,oY,ag⟩:=hrel;have xd:=aa oY;clear oY;have Hj:=aa ag;clear ag;by_cases hlt3:m<L.length
   ·obtain⟨x,hx⟩:=aj L m hlt3;obtain⟨bu,ou,uu,rfl,aL,VZ,Pf,V0,Ry⟩:=B2.o.elem hx;obtain rfl:uu=_:=V0;have q0:=(xd.o.cell (p:=⟨bu,ou+m*1+0,none⟩) VZ (by show ¬bu=_;omega)).trans (Ry 0 _ rfl);rw[fp,fg]at q0;have hxs:=HLN.o x (ct hx);have hll:(dA (bW g.F9 k j v) true++L.take m).length<=1000000:=by rw[cD,ey];omega
    have aM:=Ag (dA (bW g.F9 k j v) true++L.take m) x;exact Tba
   obtain rfl:m=L.length:=by omega
   rw[cI]at Hj;have Tq:=aa (eK.o.trans ((xd.o.below (B:=w.1.size) (by have:=eK.o.size;omega) (fun q e=>by omega))));have V4:=aa (YB.o.block (xd.o.block _ YB.o.lt Tc1));have V5:Hid (dA (bW g.F9 k (j+1) v) true=dA (bW g.F9 k j v) true++L):=aa (by rw[sY.o,qW,hL]);have aP:=aa Hj.o;go_wp2;go_roundw;exact⟨j+1,Tc1,Tc5,Tq.o,by rw[V2.o];exact V4.o,by rw[V5.o];exact aP.o⟩;simp[intOf];omega
  obtain rfl:j=v.Gf.length:=by omega
  have Uh:Hid (gm wr w.1.size (dA (aA (g.F9.take (k+1))) false)):=aa (by rw[<- fJ g.F9 k v hv.o];exact HP.o);have OT:Hid (gm wr (w.1.size+1) (dA (aA (g.F9.take (k+1))) true)):=aa (by rw[<- fJ g.F9 k v hv.o];exact HA.o);have cJ:=aa hB;clear HP HA hB;go_wp2;go_roundw;exact⟨k+1,Tc1,Tc5,cJ.o,Uh.o,OT.o⟩;simp[intOf];omega
 obtain rfl:k=g.F9.length:=by omega
 rw[cI]at HP HA;replace hB:=aa hB;obtain⟨-,-,-,-,-,-,-,g7,-⟩:=bX.cells (sm:=sm) ((hB.o.block bc jt).trans nw.o);go_wp2;clear g7;go_loopw[67] (fun i wi=>∃m:Nat,m<=g.F9.length/\i=.int .i64 m/\Below wr.1.size wr wi) (fun i _=>g.F9.length-(intOf i).toNat)
 exact⟨0,cg _,rfl,bj _ _⟩;obtain⟨m,hm,rfl,hb⟩:=hrel;replace hb:=aa hb;by_cases hlt4:m<g.F9.length
 ·obtain⟨v,hv⟩:=aj g.F9 m hlt4;obtain⟨b,off,us,rfl,gR,cX,ez,eE,ON⟩:=HG.o.elem hv;have Q5:=aa (hV.o v (ct hv));obtain⟨tv,sv,rfl,ew,fL⟩:=eE;obtain⟨tp,tc,rfl,_,_⟩:=ew.cap;obtain⟨sp,sc,rfl,au,aw⟩:=fL.cap;have cT:wr.1[b]?=w.1[b]?:=(hb.o.block b (cC cX hB.o.size)).trans (hB.o.block b cX);obtain⟨q0,q1,q2,q3,q4,q5⟩:=sw6 cT ON;have aF:=aa (ai.o v (ct hv));clear hv ON ez cT ew fL;have hA:=ae wr (.cells (Tah v tp tc sp sc) 68);have zv:=aa (b9 wr (.cells (Tah v tp tc sp sc) 68));have eI:=Zbl hb hA;clear hA;go_upto_region 23 with(fail);clear q0 q1 q2 q3 q4 q5;generalize R0:AI wr _=W1 at *;generalize ay:wr.1.size=Bv at *;clear R0 ay hb;have V8:=gm.look (HA.o.block (eI.o.block _ HA.o.lt)) v.name Q5.o;have Ui:=gm.look (HP.o.block (eI.o.block _ HP.o.lt)) v.name Q5.o;have a5:(if v.hidden then(if iJ (dA (aA g.F9) true) v.name=1 then 0 else 16) else(if iJ (dA (aA g.F9) false) v.name=0 then 0 else 16))=(0:Int):=aF.o;clear aF;have n0:=cr zv.o 0 _ rfl;have n2:=cr zv.o 2 _ rfl;generalize iJ (dA (aA g.F9) true) v.name=c1 at *;generalize iJ (dA (aA g.F9) false) v.name=c2 at *;cases hh:v.hidden with
  |true =>
   rw[hh]at n2 a5;have h1:c1=1:=by
    simp only[ej]at a5;split at a5
    ·assumption
    cases a5
   have aQ:((c1:Int) != 1)=false:=by rw[h1];rfl
   clear h1 hh a5 Ui;go_wp2;go_roundw;exact⟨m+1,Tc1,Tc5,eI.o⟩;simp[intOf];omega
  |false =>
   rw[hh]at n2 a5;have h1:c2=0:=by
    simp only[pj,fY]at a5;split at a5
    ·assumption
    cases a5
   have aQ:decide (0<c2)=false:=by rw[h1];rfl
   clear h1 hh a5 V8;go_wp2;go_roundw;exact⟨m+1,Tc1,Tc5,eI.o⟩;simp[intOf];omega
 obtain rfl:m=g.F9.length:=by omega
 have Uj:=Zbl hB hb.o;go_wp2;go_ret2;exact⟨rfl,Uj.o⟩
end Go.Proofs.YtaagglbgohjldaaGreatDoor
namespace Go.Proofs.YtaagglbgohjldaaGreatDoor
open Go.Proofs.Tryz
open Go.RowKit Go.Maps Go.Shelf
def Le{ok:Nat->Prop}(L:List (az × Nat))(M:List (ByteArray × Int × Int))(bm Bt:Nat)(v:ay)(s:aB)(u1 u2:List Value)(w:World)(DB:w.cell? Bt=some (.map (some bm)))(Ue:Bt<w.1.size)(hL:uF ok w L bm)(hLt:∀p∈L,p.2≠Bt)(hT:kK w L M)
  (hv:aN ok w u1 v) (hs:bC ok w u2 s) (hf:wM s) (aA:1<=aX s) (af:∀a∈s.Ga,a.vol=false->a.on.size<=maxLen/\∃d,bH (L.map (·.1)) a.on=some d/\0<=a.start/\aX s<=d.Gc-a.start) (Rx:nP (aX s) M s.Ga=false) :
  Calls prog 154 #[.agg u1.toArray,.agg u2.toArray,.pointer (some Bt)] w fun e w'=>e=.returned (.int .i64 0)/\cR (Gm L) w w'/\kK w' L (M++dC (aX s) s.Ga):=by
 replace Rx:=aa Rx;replace hL:=aa hL;replace hLt:=aa hLt;have HT:=aa hT;clear hT;replace af:=aa af;replace DB:=aa DB;obtain⟨tv,sv,rfl,ew,fL⟩:=hv;obtain⟨tp,tc,rfl,_,_⟩:=ew.cap;obtain⟨sp,sc,rfl,_,_⟩:=fL.cap;obtain⟨av,Oz,rfl,mC,hst⟩:=hs;obtain⟨ap,ac,rfl,_,_⟩:=mC.cap;obtain⟨eN,eR,rfl,_,_⟩:=hst.cap;replace mC:=aa mC;clear hst ew fL;have Tp:=hf.ar;have hl0:=hf.l0;have hl1:=hf.l1;clear hf;have qu:aX s<=32768:=by have:=(zV (k:=s.kind) (l:=s.length) (n:=s.Ga.length) Tc1).2;unfold aX;omega
 have aC:Hid (aX s=iB s.kind s.length s.Ga.length):=aa rfl;have hA1:=ae w (.cells (Tah v tp tc sp sc) 68);have hA2:=ae (w.alloc (.cells (Tah v tp tc sp sc) 68)) (.cells (Tae s ap ac eN eR) 114);have lj:=aa (b9 (w.alloc (.cells (Tah v tp tc sp sc) 68)) (.cells (Tae s ap ac eN eR) 114));have HB:=aa (hA1.trans (hA2.mono hA1.size));clear hA1 hA2;go_enter func154,ntmps154
 go_upto_region 1 with(fail);rw[cW]at lj;have aI:w.1.size<w.1.size+1:=Nat.lt_succ_self _;generalize R0:AI (AI w _) _=W1 at *;generalize aJ:w.1.size+1=Bs at *;clear R0;have sL:=cr lj.o;have s3:=sL 3 _ rfl;clear sL;go_wp2;clear s3;have am:Hid (cR (Gm L) w W1):=aa (cR.of_below HB.o);have Rt:=aa (HT.o.below HB.o);go_loopw[13] (fun i wr=>∃k:Nat,k<=s.Ga.length/\i=.int .i64 k/\cR (Gm L) w wr/\kK wr L (M++dC (aX s) (s.Ga.take k))/\nP (aX s) (M++dC (aX s) (s.Ga.take k)) (s.Ga.drop k)=false/\wr.1[Bs]?=some (.cells (Tae s ap ac eN eR) 114 (0,0))) (fun i _=>s.Ga.length-(intOf i).toNat)
 exact⟨0,cg _,rfl,am.o,by rw[iv];simpa[dC]using Rt.o,by rw[iv,cL];simpa[dC]using Rx.o,lj.o⟩;clear am Rt lj HB;obtain⟨k,hk,rfl,hm,ht,he,gO⟩:=hrel;have HM:=aa hm;clear hm;have HT:=aa ht;clear ht;replace he:=aa he;have lj:=aa gO;clear gO;by_cases hlt:k<s.Ga.length
 ·obtain⟨r,hr⟩:=aj s.Ga k hlt;obtain⟨b,off,us,rfl,gR,cX,ez,aD,mB⟩:=mC.o.elem hr;obtain rfl:us=_:=aD;have cT:wr.1[b]?=w.1[b]?:=HM.o.block b cX (fun⟨p,hp,e⟩=>(hL.o.lt p hp).2.1 (e ▸ gR));obtain⟨q0,q1,q2⟩:=Mn cT mB;have a7:=aa (xC (aX s) s.Ga k r hr);have AG:=aa ((Ee (aX s) (M++dC (aX s) (s.Ga.take k)) hr).symm.trans he.o);have aE:=aa (af.o r (ct hr));clear hr ez mB cT;have hA:=ae wr (.cells (Taw r) 53);have yb:=aa (b9 wr (.cells (Taw r) 53));have a8:=aa (HM.o.trans (cR.of_below (F:=fun _=>False) hA) (fun _ f=>f.elim));have HT2:=aa (HT.o.below hA);have VO:=aq lj.o;have Hi:=aa ((hA.block _ VO).trans lj.o);clear hA;go_upto_region 4 with(fail);clear q0 q1 q2;generalize aF:AI wr _=W2 at *;generalize aK:wr.1.size=Ba at *;clear aF HM HT lj he;have a0:=cr yb.o 0 _ rfl
  cases pS:r.vol with
  |true =>
   rw[pS]at a0;have HV:=aa pS;clear pS;go_wp2;go_roundw;exact⟨k+1,Tc1,Tc5,a8.o,by rw[a7.o,aw HV.o];exact HT2.o,by have:=AG.o;rw[aw HV.o]at this;rw[a7.o,aw HV.o];exact this,Hi.o⟩;simp[intOf];omega
  |false =>
   rw[pS]at a0;obtain⟨mu,d,N4,ag,ah⟩:=aE.o pS;have HV:=aa pS;clear pS;obtain⟨bd,Uf,Pc,ai⟩:=Dv N4;have Yu:=hL.o.de _ Uf;have CD:=hL.o.lt _ Uf;dsimp only at Yu CD;clear N4;replace Pc:=aa Pc;replace Uf:=aa Uf;have aG:Hid (∀p∈L,p.2<W2.1.size):=aa fun p hp=>cC (hL.o.lt p hp).1 a8.o.size
   go_upto_region 5 with(fail);clear a0;obtain⟨st,hst⟩:∃st:Nat,r.start=st:=⟨r.start.toNat,Tc1⟩;obtain⟨n,hn⟩:∃n:Nat,aX s=n:=⟨(aX s).toNat,Tc1⟩;obtain⟨E,hE⟩:∃E:Nat,d.Gc=E:=⟨d.Gc.toNat,Tc1⟩;rw[show d.Gc.toNat=E by omega]at ai;rw[hn,hE,hst]at ah;rw[hn]at aA qu;rw[hE]at Yu;rw[hst]at ag yb;have Ru:=aa ((a8.o.cell (p:=Bt) Ue (fun⟨p,hp,e⟩=>hLt.o p hp e)).trans DB.o);have VQ:=cC Ue a8.o.size;have Qk:=aa (hL.o.map.block (a8.o.block _ hL.o.map.lt (fun⟨p,hp,e⟩=>(hL.o.lt p hp).2.2 e)))
   have ao:Hid (∀w',bi prog 9 w' bm L.length (vG L)->(Instr.lookup 201 (.map (some bm)) (.string r.on) false).run prog w'=.ok (.slice (some bd) E E) w'):=aa fun w' hm=>by
    have:=(bi.look hm oM underlying201 (E8 w') (key:=.string r.on) (gG r.on mu)).1;rwa[ai]at this
   replace hst:=aa hst;replace hn:=aa hn;replace hE:=aa hE;clear ai;have hS:∀w':World,Below W2.1.size W2 w'->(w'.cell? Bt=some (.map (some bm))/\w'.cell? (Tac Ba 1)=some (.string r.on)/\w'.cell? (Tac Ba 2)=some (.int .i64 (st:Int))/\(Instr.lookup 201 (.map (some bm)) (.string r.on) false).run prog w'=.ok (.slice (some bd) E E) w'/\w'.cell? Bs=some (.int .i64 s.start)/\w'.cell? (Tac Bs 1)=some (.int .i64 s.length)/\w'.cell? (Tac Bs 2)=some (.int .i64 s.kind)/\w'.cell? (Tac Bs 3)=some (.slice (some (b,off)) s.Ga.length ac)/\w'.cell? (Tac Bs 4)=some (.int .i64 s.chunk)/\w'.cell? (Tac Bs 5)=some (.slice eN s.stale.length eR)/\w'.cell? (Tac Bs 6)=some (.string s.log)/\w'.cell? (Tac Bs 7)=some (.string s.pool)/\w'.cell? (Tac Bs 8)=some (.int .i64 s.device)/\w'.cell? (Tac Bs 9)=some (.int .i64 s.mode)/\w'.cell? (Tac Bs 10)=some (.int .i64 s.done)):=fun w' e=>by
    have h2:=(e.block Bs (aq Hi.o)).trans Hi.o;have h3:=(e.block Ba (aq yb.o)).trans yb.o;exact⟨(e.cell (p:=Bt) VQ).trans Ru.o,cr h3 _ _ rfl,cr h3 _ _ rfl,ao.o w' (Qk.o.block (e.block _ Qk.o.lt)),cr h2 _ _ rfl,cr h2 _ _ rfl,cr h2 _ _ rfl,cr h2 _ _ rfl,cr h2 _ _ rfl,cr h2 _ _ rfl,cr h2 _ _ rfl,cr h2 _ _ rfl,cr h2 _ _ rfl,cr h2 _ _ rfl,cr h2 _ _ rfl⟩
   replace hS:=aa hS;refine aL (fun w'=>w'.cell? Bt=some (.map (some bm))/\w'.cell? (Tac Ba 1)=some (.string r.on)/\w'.cell? (Tac Ba 2)=some (.int .i64 (st:Int))/\(Instr.lookup 201 (.map (some bm)) (.string r.on) false).run prog w'=.ok (.slice (some bd) E E) w'/\w'.cell? Bs=some (.int .i64 s.start)/\w'.cell? (Tac Bs 1)=some (.int .i64 s.length)/\w'.cell? (Tac Bs 2)=some (.int .i64 s.kind)/\w'.cell? (Tac Bs 3)=some (.slice (some (b,off)) s.Ga.length ac)/\w'.cell? (Tac Bs 4)=some (.int .i64 s.chunk)/\w'.cell? (Tac Bs 5)=some (.slice eN s.stale.length eR)/\w'.cell? (Tac Bs 6)=some (.string s.log)/\w'.cell? (Tac Bs 7)=some (.string s.pool)/\w'.cell? (Tac Bs 8)=some (.int .i64 s.device)/\w'.cell? (Tac Bs 9)=some (.int .i64 s.mode)/\w'.cell? (Tac Bs 10)=some (.int .i64 s.done)) 11 [] Tc3 (hS.o _ (bj _ _).drew) (fun a5=>?_);refine fS 0 a5 ?_;refine fS 1 a5 ?_;refine fS 2 a5 ?_;refine fS 3 a5 ?_;refine fS 4 a5 ?_;refine fS 5 a5 ?_;refine fS 6 a5 ?_;refine fS 7 a5 ?_;refine fS 8 a5 ?_;refine lR 9 fun K hK=>?_;go_simp;refine(ji _ _ _ _ _ _ _ _ _ _ _ _ _ _ _ _ Tc1 Tc1 Tc1).mono ?_;rintro e w3 ⟨rfl,hb3⟩;rw[<- aC.o,hn.o];have cJ:Hid (Below W2.1.size W2 w3):=aa ⟨hb3.os,hb3.tape,hb3.output,hb3.size,hb3.block⟩;clear hb3;refine hK.o _ _ (hS.o _ cJ.o) ?_;clear hK K;refine lR 10 fun K hK=>?_;go_simp;refine hK.o _ _ (hS.o _ cJ.o) ?_;clear hK K a5;refine aP Tc3 rfl ?_;simp only[cQ,cL]
   go_upto_region 6 with(fail);have Of:(((bz (M++dC (aX s) (s.Ga.take k)) d).drop st).take n).length=n:=by rw[ey,List.length_drop,gP];have:=hE.o;omega
   have ak:=aa (HT2.o.below cJ.o);have Rv:Hid ((((bz (M++dC (aX s) (s.Ga.take k)) d).drop st).take n).any id=tV (M++dC (aX s) (s.Ga.take k)) r.on r.start (aX s)):=aa (by
    have:=D5 (M++dC (aX s) (s.Ga.take k)) d r.start (aX s) (by rw[hst.o];omega) (by rw[hn.o];omega) (by rw[hst.o,hn.o,hE.o];omega);rw[hst.o,hn.o]at this;rw[hst.o,hn.o,<- Pc.o];exact this)
   have LL:=aa (oC _ bd st (E-st) w3 (ak.o.bools Uf.o st n) (cC (aG.o _ Uf.o) cJ.o.size) (by rw[Of];omega));rw[Of]at LL;clear Of;rw[HV.o]at a7 AG;rw[bh Tc2]at a7 AG;have Rp:=aa (a8.o.trans (cR.of_below (F:=fun _=>False) cJ.o) (fun _ f=>f.elim));have nB:=aa ((cJ.o.block Bs (aq Hi.o)).trans Hi.o);clear a8 HT2 Hi hS yb Ru Qk ao;go_wp2_with fail;refine LL.o.mono ?_;rintro e w4 ⟨rfl,ab⟩;rw[Rv.o];have Q9:=aa (ak.o.below ab);have Ql:=aa (Rp.o.trans (cR.of_below (F:=fun _=>False) ab) (fun _ f=>f.elim));have Tx:=aa ((ab.block Bs (aq nB.o)).trans nB.o);clear LL Rv ak Rp nB ab cJ;have a9:tV (M++dC (aX s) (s.Ga.take k)) r.on r.start (aX s)=false:=by
    have:=AG.o;cases hq:tV (M++dC (aX s) (s.Ga.take k)) r.on r.start (aX s)with
    |false=>rfl
    |true=>rw[hq,aw rfl]at this;cases this
   rw[a9,bh Tc2]at AG;rw[a9];clear a9;have VT:Hid (M++dC (aX s) (s.Ga.take (k+1))=(M++dC (aX s) (s.Ga.take k))++[(d.name,(st:Int),(n:Int))]):=aa (by rw[a7.o,<- cV,Pc.o,hst.o,hn.o]);have VU:Hid (nP (aX s) (M++dC (aX s) (s.Ga.take (k+1))) (s.Ga.drop (k+1))=false):=aa (by rw[a7.o,<- cV];exact AG.o);clear a7 AG;go_upto_region 9 with(fail);go_loopw[35,9] (fun i _ wi=>∃j:Nat,j<=n/\i=.int .i64 j/\cR (Gm L) w wi/\kK wi L ((M++dC (aX s) (s.Ga.take k))++[(d.name,(st:Int),(j:Int))])/\wi.1[Bs]?=some (.cells (Tae s (some ⟨b,off,none⟩) ac eN eR) 114 (0,0))) (fun i _ _=>n-(intOf i).toNat)
   exact⟨0,cg _,rfl,Ql.o,Q9.o.zero _ _,Tx.o⟩;clear Ql Q9 Tx;obtain⟨j,hj,rfl,hm,ht,gO⟩:=hrel;have HM:=aa hm;clear hm;have HT:=aa ht;clear ht;have lj:=aa gO;clear gO;by_cases hlt2:j<n
   ·have hb:=HT.o _ Uf.o;have au:=aa (HT.o.set hL.o.nb hL.o.nn Uf.o Tc1);rw[Int.toNat_natCast]at au;have aH:=aa (HM.o.setCell (p:=⟨bd,st+j,none⟩) (.inl ⟨_,Uf.o,rfl⟩) (.bool true));have hne:Bs≠bd:=by have:=(hL.o.lt _ Uf.o).1;dsimp only at this;omega
    have fl:=aa ((bw wr ⟨bd,st+j,none⟩ (.bool true) Bs hne).trans lj.o);have c0:wr.cell? (bd,st+j)=some (.bool (tkB ((M++dC (aX s) (s.Ga.take k))++[(d.name,(st:Int),(j:Int))]) d.name (st+j))):=by
     dsimp only at hb;simp only[AN,hb];have hg:=gU (M:=(M++dC (aX s) (s.Ga.take k))++[(d.name,(st:Int),(j:Int))]) (d:=d) (i:=st+j) (by have:=hE.o;omega);generalize bz _ d=bl at hg ⊢;simp[hg]
    have f0:wr.frozen? (bd,st+j)=false:=by
     dsimp only at hb;simp[BT,hb]
    clear hb;generalize tkB _ d.name (st+j)=x at *;go_wp2;go_roundw;exact⟨j+1,Tc1,Tc5,aH.o,au.o,fl.o⟩;simp[intOf];omega
   obtain rfl:j=n:=by omega
   rw[<- VT.o]at HT;go_wp2;go_roundw;exact⟨k+1,Tc1,Tc5,HM.o,HT.o,VU.o,lj.o⟩;simp[intOf];omega
 obtain rfl:k=s.Ga.length:=by omega
 rw[cI]at HT;go_wp2;go_ret;exact⟨rfl,HM.o,HT.o⟩
def Lp{ok:Nat->Prop}(pre:List (ay × aB))(bm Bt:Nat)(v:ay)(s:aB)(u1 u2:List Value)(w:World)(DB:w.cell? Bt=some (.map (some bm)))(Ue:Bt<w.1.size)(hM:bi prog 206 w bm pre.length (iV pre))(hl:pre.length<=1000000)
  (hv:aN ok w u1 v) (hs:bC ok w u2 s) (hp:s.pool.size<=maxLen) (hd:(Lit.int .i64 s.device).wf=true) (he:s.kind=6->pY pre s=false) :
  Calls prog 156 #[.agg u1.toArray,.agg u2.toArray,.pointer (some Bt)] w fun e w'=>e=.returned (.int .i64 0)/\cR (fun b=>b=bm) w w'/\bi prog 206 w' bm (pre.length+1) (iV (pre++[(v,s)])):=by
 replace he:=aa he;obtain⟨tv,sv,rfl,ew,fL⟩:=hv;obtain⟨tp,tc,rfl,_,_⟩:=ew.cap;obtain⟨sp,sc,rfl,_,_⟩:=fL.cap;obtain⟨av,Oz,rfl,mC,hst⟩:=hs;obtain⟨ap,ac,rfl,_,_⟩:=mC.cap;obtain⟨eN,eR,rfl,_,_⟩:=hst.cap;clear mC hst ew fL;have hA1:=ae w (.cells (Tah v tp tc sp sc) 68);have hA2:=ae (w.alloc (.cells (Tah v tp tc sp sc) 68)) (.cells (Tae s ap ac eN eR) 114);have lj:=aa (b9 (w.alloc (.cells (Tah v tp tc sp sc) 68)) (.cells (Tae s ap ac eN eR) 114));have HB:=aa (hA1.trans (hA2.mono hA1.size));clear hA1 hA2;obtain⟨kl,Vk⟩:=DX s.pool s.device hp hd;replace Vk:=aa Vk;clear hp hd;have HM:=aa (hM.block (HB.o.block _ hM.lt));clear hM;have ht:=(HB.o.cell (p:=Bt) Ue).trans DB;clear DB;go_enter func156,ntmps156
 go_upto_region 1 with(fail);rw[cW]at lj;generalize R0:AI (AI w _) _=W1 at *;generalize af:w.1.size+1=Bs at *;clear R0;have a5:=(bi.look HM.o EI underlying204 (wY W1) Vk.o).1;rw[AZ]at a5;obtain⟨w',hst,a7,a9,ab⟩:=bi.store HM.o EI underlying204 (rr hl Tc4) Vk.o (.bool true);replace a7:=aa a7;have VT:Hid (cR (fun b=>b=bm) w w'):=aa ((cR.of_below HB.o).trans (cR.grown a9) (fun i e=>.inl e));clear a9 ab;have sL:=cr lj.o;have s2:=sL 2 _ rfl;have s7:=sL 7 _ rfl;have s8:=sL 8 _ rfl;clear sL;by_cases hk:s.kind=6
 ·have hkb:(s.kind != 6)=false:=by simpa using hk
  rw[he.o hk]at a5;have a8:=aa hk;clear hk;go_wp2;go_ret;exact⟨rfl,VT.o,a7.o.congr fun key _ _=>yU pre v s a8.o key⟩
 have hkb:(s.kind != 6)=true:=by simpa using hk
 have a8:=aa hk;clear hk;clear a5 hst;go_wp2;go_ret;exact⟨rfl,cR.of_below HB.o,(HM.o.mono (Nat.le_succ _)).congr fun key _ _=>yN pre v s a8.o key⟩
attribute [local go_sem] run_makeMap_plain
def Lg{ok:Nat->Prop}(g:af)(a:bN)(bc:Nat)(w:World)(kB:gY w bc g a)(hg:dN ok w g a)(hf:UQ g)(ho:FL g)(he:(pE g).2=0) :
  Calls prog 107 #[.pointer (some bc)] w (OkM w):=by
 have hr1:(bD CQ [] (aA g.F9)).2=0:=by
  unfold pE at he;split at he
  ·assumption
  exact he
 have hr2:(bD IW [] (aA g.F9)).2=0:=by
  unfold pE at he;rwa[aw hr1]at he
 have XO:=aa (fun a b v s e=>Hd hr1 a b v s e);have E3:=aa (fun a b v s e=>Hd hr2 a b v s e);clear hr1 hr2 he;have jt:=kB.lt;have I3:=aa kB;obtain⟨sm,da,_⟩:=kB;have nw:Hid (bX w bc sm g a):=aa da;clear da;have Yw:=aa hg;have HG:=aa hg.Gb;have HF:=aa hf;have HO:=aa ho;have CD:=ho.dl;obtain⟨vp,vc,sT,aJ,aK⟩:=hg.Gb.cap;clear hg hf ho;injection sT with e1 e2 e3;obtain⟨ID,aM,aN,G3,G4,Ge,Hb,Hc⟩:=a;dsimp only at e1 e2 e3;subst e1;subst e3;clear e2;have hA1:=ae w (.map #[] 0);have hA2:=ae (w.alloc (.map #[] 0)) (.cells #[.map (some w.1.size)] 201);have a7:=bi.made prog 9 w;have kc:=b9 (w.alloc (.map #[] 0)) (.cells #[.map (some w.1.size)] 201);rw[cW]at kc;have a9:=aa kc;clear kc;have ab:=aa (a7.block (hA2.block _ a7.lt));have cm:=aa (hA1.trans (hA2.mono hA1.size));clear hA1 hA2 a7;obtain⟨-,-,-,-,-,-,g6,-,-⟩:=bX.cells (sm:=sm) ((cm.o.block bc jt).trans nw.o);go_enter func107,ntmps107
 go_upto_region 3 with(fail);generalize R0:AI (AI w _) _=W1 at *;clear R0 g6;have AG:=aa (show OvL w.1.size W1 w.1.size (w.1.size+1) [] from⟨⟨ab.o.congr (fun key _ _=>Cs key),Tc2,Tc2,fun p hp=>absurd hp Tc2,fun p hp=>absurd hp Tc2⟩,fun p hp=>absurd hp Tc2,cr a9.o _ _ rfl,fun p hp=>absurd hp Tc2,aq a9.o⟩);clear ab a9;go_loopw[17] (fun i wr=>∃k:Nat,k<=g.Gb.length/\i=.int .i64 k/\Below w.1.size w wr/\∃L:List (az × Nat),L.map (·.1)=g.Gb.take k/\OvL w.1.size wr w.1.size (w.1.size+1) L) (fun i _=>g.Gb.length-(intOf i).toNat)
 exact⟨0,cg _,rfl,cm.o,[],Tc2,AG.o⟩;clear cm AG;obtain⟨k,hk,rfl,hB,L,hL,Rx⟩:=hrel;replace hB:=aa hB;replace hL:=aa hL;have AG:=aa Rx;clear Rx;by_cases hlt:k<g.Gb.length
 ·obtain⟨d,hd⟩:=aj g.Gb k hlt;obtain⟨b,off,us,rfl,gR,cX,ez,eE,ON⟩:=HG.o.elem hd;obtain⟨tv,rfl,ew⟩:=eE;obtain⟨tp,tc,rfl,_,_⟩:=ew.cap;have cT:wr.1[b]?=w.1[b]?:=hB.o.block b cX;obtain⟨q0,q1,q2,q3,q4,q5,q6⟩:=OD cT ON;have ah:=ct hd;have vu:=HF.o.de d ah;have aB:=HO.o.ns d ah;have Qm:=aa (zn HO.o.nd hd hL.o);have QY:Hid (∀b:Nat,(L++[(d,b)]).map (·.1)=g.Gb.take (k+1)):=aa (fun b=>by rw[gl,hL.o,take_snoc' g.Gb k d hd];rfl);clear hd ON ez cT ew ah;replace vu:=aa vu;have hA:=ae wr (.cells (Tai d tp tc) 51);have sX:=aa (b9 wr (.cells (Tai d tp tc) 51));have cJ:=Zbl hB hA;have Pd:=aa (AG.o.below hA);have ao:(wr.alloc (.cells (Tai d tp tc) 51)).1.size=wr.1.size+1:=by simp
  clear hA;go_upto_region 5 with(fail);clear q0 q1 q2 q3 q4 q5 q6;generalize aC:AI wr _=W2 at *;generalize aD:wr.1.size=Bd at *;clear aC hB AG aD;obtain⟨E,hE⟩:∃E:Nat,d.Gc=E:=⟨d.Gc.toNat,by have:=vu.o;omega⟩;have Yx:d.Gc.toNat=E:=by omega
  have aE:E<=1000000:=by have:=vu.o;omega
  have hS:∀w':World,Below W2.1.size W2 w'->(w'.cell? (Tac (w.1.size+1) 0)=some (.map (some w.1.size))/\w'.cell? Bd=some (.string d.name)/\w'.cell? (Tac Bd 3)=some (.int .i64 (E:Int))):=fun w' e=>by
   have h2:=(e.block Bd (aq sX.o)).trans sX.o;rw[hE]at h2;exact⟨(Pd.o.below e).c,cr h2 _ _ rfl,cr h2 _ _ rfl⟩
  replace hS:=aa hS;clear hE;replace Yx:=aa Yx;replace ao:=aa ao;refine aL (fun w'=>w'.cell? (Tac (w.1.size+1) 0)=some (.map (some w.1.size))/\w'.cell? Bd=some (.string d.name)/\w'.cell? (Tac Bd 3)=some (.int .i64 (E:Int))) 6 [] Tc3 (hS.o _ (bj _ _).drew) (fun a5=>?_);refine fS 0 a5 ?_;refine fS 1 a5 ?_;refine fS 2 a5 ?_;refine fS 3 a5 ?_;refine fS 4 a5 ?_;refine lR 5 fun K hK=>?_;have aF:=AJ d E Yx.o aE W2.drew;go_simp;clear aF;have ai:=ae W2.drew (.cells ((bz [] d).map FG).toArray 4);refine hK.o _ _ (hS.o _ ((bj W2.1.size W2).drew.trans (ai.mono Tc2))) ?_;clear hK K a5;refine aP Tc3 rfl ?_;simp only[cQ,cL];have ag:Below W2.1.size W2 (W2.drew.alloc (.cells ((bz [] d).map FG).toArray 4)):=(bj W2.1.size W2).drew.trans (ai.mono Tc2)
  have aG:L.length<=1000000:=by
   have:=fj List.length hL.o;rw[fW,ey]at this;omega
  obtain⟨w',hst,hm',ak,au⟩:=bi.store ((Pd.o.below ag).m.map) oM underlying201 (rr aG Tc4) (gG d.name aB) (.slice (some W2.1.size) E E);have VW:=aa (OvL.snoc Pd.o (W:=W2.drew) (bj W2.1.size W2).drew cJ.o.size vu.o Yx.o Qm.o hm' ak au);have P7:Hid (Below w.1.size w w'):=aa ((cJ.o.trans (ag.mono cJ.o.size)).trans ((cR.grown ak).below (B:=w.1.size) (cA cJ.o.size ag.size) (fun q e=>by omega)));replace hst:(Instr.mapUpdate 201 (.map (some w.1.size)) (.string d.name) (.slice (some W2.1.size) E E)).run prog (W2.alloc (.cells ((bz [] d).map FG).toArray 4)).drew=.ok () w':=hst;clear hm' ak au ag ai;go_wp2;go_roundw;exact⟨k+1,Tc1,Tc5,P7.o,_,QY.o _,VW.o⟩;simp[intOf];omega
 obtain rfl:k=g.Gb.length:=by omega
 rw[cI]at hL;have hlt3:w.1.size+1<wr.1.size:=AG.o.bt;go_wp2_with fail;refine(BS (ok:=fun b=>ok b/\b<w.1.size) (F:=Gm L) 154 [.pointer (some (Tac (w.1.size+1) 0))] (fun l W=>by go_simp) g _ bc (fun pre W=>kK W L (lU pre)) wr (I3.o.below hB.o) (Yw.o.mv ⟨hB.o.size,fun b hb ho=>⟨⟨ho,hb⟩,hB.o.block b hb⟩⟩) HF.o.sz ?_ (fun _ _ _ h hb=>h.below hb) AG.o.t ?_).mono ?_
 ·rintro b ⟨p,hp,rfl⟩;have:=AG.o.m.lt p hp;exact⟨this.1,fun q=>this.2.1 q.2⟩
 ·intro pre v s post hp W u1 u2 hm hi hv hs;obtain⟨m1,m2⟩:=jZ hp;obtain⟨f1,f2,f3,f4,f5⟩:=HO.o.sg v m1 s m2;have a8:=AG.o.m;refine(Le (ok:=fun b=>ok b/\b<w.1.size) L (lU pre) w.1.size (w.1.size+1) v s u1 u2 W ((hm.cell (p:=⟨w.1.size+1,0,none⟩) AG.o.bt (fun⟨p,hp,e⟩=>AG.o.n p hp e)).trans AG.o.c) (cC AG.o.bt hm.size)
   ((⟨a8.map,a8.nb,a8.nn,fun p hp=>⟨(a8.lt p hp).1,fun q=>(a8.lt p hp).2.1 q.2,(a8.lt p hp).2.2⟩,a8.de⟩:uF (fun b=>ok b/\b<w.1.size) wr L w.1.size).mod hm) AG.o.n hi hv hs f1 f2 (by rw[hL.o];exact f3) (by
    have:=XO.o pre post v s hp;rw[List.nil_append]at this;unfold CQ at this;split at this
    ·cases this
    exact Bool.eq_false_iff.2 ‹_›)).mono ?_
  rintro e W' ⟨rfl,h2,h3⟩;refine⟨rfl,h2,?_⟩;show kK W' L (lU (pre++[(v,s)]));rw[wm];exact h3
 rintro e w3 ⟨rfl,am,-⟩;have cJ:Hid (Below w.1.size w w3):=aa (hB.o.trans (am.below hB.o.size (fun b ⟨p,hp,e⟩=>by have:=(AG.o.m.lt p hp).2.1;omega)));have hlt4:wr.1.size<=w3.1.size:=am.size;clear am AG hL hB;have hA1:=ae w3 (.map #[] 0);have hA2:=ae (w3.alloc (.map #[] 0)) (.cells #[.map (some w3.1.size)] 204);have a7:=bi.made prog 206 w3;have kc:=b9 (w3.alloc (.map #[] 0)) (.cells #[.map (some w3.1.size)] 204);rw[cW]at kc;have a9:=aa kc;clear kc;have ab:=aa (a7.block (hA2.block _ a7.lt));have cm:=aa (hA1.trans (hA2.mono hA1.size));clear hA1 hA2 a7;go_wp2_with fail;generalize aH:AI (AI w3 _) _=W4 at *;clear aH;have eI:=Zbl cJ cm.o;have av:=aq a9.o;have mA:=cJ.o.size;refine(BS (ok:=fun b=>ok b/\b<w.1.size) (F:=fun b=>b=w3.1.size) 156 [.pointer (some (Tac (w3.1.size+1) 0))] (fun l W=>by go_simp) g _ bc (fun pre W=>bi prog 206 W w3.1.size pre.length (iV pre)) W4 (I3.o.below eI.o) (Yw.o.mv ⟨eI.o.size,fun b hb ho=>⟨⟨ho,hb⟩,eI.o.block b hb⟩⟩) HF.o.sz ?_ (fun _ _ _ h hb=>h.block (hb.block _ h.lt)) ?_ ?_).mono ?_
 ·rintro b rfl;exact⟨ab.o.lt,fun q=>by have:=q.2;omega⟩
 ·refine ab.o.congr fun key _ _=>?_
  unfold iV;rw[bh Tc2]
 ·intro pre v s post hp W u1 u2 hm hi hv hs;obtain⟨m1,m2⟩:=jZ hp;obtain⟨f1,f2,f3,f4,f5⟩:=HO.o.sg v m1 s m2;have aI:pre.length<=1000000:=by
   have:=HO.o.pl;rw[hp,cD]at this;omega
  refine(Lp (ok:=fun b=>ok b/\b<w.1.size) pre w3.1.size (w3.1.size+1) v s u1 u2 W ((hm.cell (p:=⟨w3.1.size+1,0,none⟩) av (by show ¬w3.1.size+1=_;omega)).trans (by simp[AN,a9.o])) (cC av hm.size) hi aI hv hs f4 f5 (fun hk=>by
   have:=E3.o pre post v s hp;rw[List.nil_append]at this;unfold IW at this;rw[aw hk]at this;unfold pY;split at this
   ·cases this
   exact Bool.eq_false_iff.2 ‹_›)).mono ?_
  rintro e W' ⟨rfl,h2,h3⟩;refine⟨rfl,h2,?_⟩;show bi prog 206 W' w3.1.size (pre++[(v,s)]).length (iV (pre++[(v,s)]));rw[cD];exact h3
 rintro e w5 ⟨rfl,ay,-⟩;have eK:Hid (Below w.1.size w w5):=aa (eI.o.trans (ay.below eI.o.size (fun b e=>by omega)));clear ay;go_wp2;go_ret2;exact⟨rfl,eK.o⟩
end Go.Proofs.YtaagglbgohjldaaGreatDoor
namespace Go.Proofs.YtaagglbgohjldaaGreatDoor
open Go.Proofs.Tryz
open Go.RowKit Go.Maps Go.Shelf
variable {g:af}{v:ay}{s:aB}
structure GOk(g:af):Prop where
 gi:GIn g
 mk0:(mchk g).2=0
def Nj(h4:(iP g).2=0)(hv:v∈g.F9)(hs:s∈v.Gf)(h6:s.kind=6):dD s false=[]:=by
 obtain⟨k,hk⟩:=fc hs;obtain⟨x,hx,-,-,⟨-,h2⟩,-,-,hl,-⟩:=DD (Kv h4 hv hk).1;rw[h6]at hx;injection hx with hx;subst hx;have ha:s.Ga=[]:=fX (by dsimp only at h2;omega);have OX:s.log.toList.isEmpty=true:=by simpa using hl
 unfold dD;rw[ha,OX];rfl
def Tbr{p:Prop}(h:p:=by
 have:(v,s)∈aA g.F9:=List.mem_flatMap.2 ⟨v,hv,List.mem_map.2 ⟨s,hs,rfl⟩⟩;obtain⟨a,b,e⟩:=List.append_of_mem this;have:=Hd h6 a b v s e;unfold xh at this;split at this
 ·assumption
 cases this):p:=h
def NZ(h6:(qG g).2=0)(hv:v∈g.F9)(hs:s∈v.Gf):CX g s=true:=by
 exact Tbr
def Nn{ok:Nat->Prop}(g:af)(a:bN)(w:World)(hg:dN ok w g a)(hi:GIn g)(hS:AW w)(hm:(mchk g).2=0) :
  Calls prog 57 #[.agg (Tad g a)] w (OkM w):=by
 obtain⟨h1,h2,h3,h4,h5,h6,h7,h8⟩:=Dg hm;have HR:=aa (⟨h1,h2,h3,h4,h5,h6,h7,h8⟩:_/\_/\_/\_/\_/\_/\_/\_);clear h1 h2 h3 h4 h5 h6 h7 h8 hm;replace hg:=aa hg;replace hi:=aa hi;have MD:=aa hS;clear hS;have cU:=aa (ae w (.cells (Tad g a) 31));have CN:=aa (b9 w (.cells (Tad g a) 31));go_enter func57,ntmps57
 go_upto_region 1 with(fail);generalize R0:AI w _=W1 at *;generalize ai:w.1.size=Bg at *;clear R0;have hS:∀w':World,Below W1.1.size W1 w'->(OF w' Bg g a):=fun w' e=>by
  have h2:=(e.block Bg (aq CN.o)).trans CN.o;exact⟨cr h2 _ _ rfl,cr h2 _ _ rfl,cr h2 _ _ rfl,cr h2 _ _ rfl,cr h2 _ _ rfl,cr h2 _ _ rfl,cr h2 _ _ rfl,cr h2 _ _ rfl,cr h2 _ _ rfl⟩
 replace hS:=aa hS;refine aL (fun w'=>OF w' Bg g a) 2 [] Tc3 (hS.o _ (bj W1.1.size W1).drew) (fun a7=>?_);refine fS 0 a7 ?_;refine lR 1 fun K hK=>?_;go_simp;refine(zq _).mono ?_;rintro e w2 ⟨sm,rfl,a5,hb2⟩;have cm:Hid (Below W1.1.size W1 w2):=aa ⟨hb2.os,hb2.tape,hb2.output,hb2.size,hb2.block⟩;replace a5:=aa a5;clear hb2;refine hK.o _ _ (hS.o _ cm.o) ?_;clear hK K a7 hS;refine aP Tc3 rfl ?_;simp only[cQ,cL];have hA:=ae w2 (.cells #[g.name,.int .u64 g.id,.int .i64 g.seq,.int .i64 g.Gd,.int .i64 g.next,.slice a.tp g.tags.length a.tc,.slice a.dp g.Gb.length a.dc,.slice a.vp g.F9.length a.vc,.slice a.hp g.history.length a.hc,.map (some sm)] 156);have hN:=b9 w2 (.cells #[g.name,.int .u64 g.id,.int .i64 g.seq,.int .i64 g.Gd,.int .i64 g.next,.slice a.tp g.tags.length a.tc,.slice a.dp g.Gb.length a.dc,.slice a.vp g.F9.length a.vc,.slice a.hp g.history.length a.hc,.map (some sm)] 156);have I3:Hid (gY (w2.alloc (.cells #[g.name,.int .u64 g.id,.int .i64 g.seq,.int .i64 g.Gd,.int .i64 g.next,.slice a.tp g.tags.length a.tc,.slice a.dp g.Gb.length a.dc,.slice a.vp g.F9.length a.vc,.slice a.hp g.history.length a.hc,.map (some sm)] 156)) w2.1.size g a):=aa ⟨sm,hN,a5.o.block (hA.block _ a5.o.lt)⟩;have cJ:Hid (Below Bg w _):=aa ((cU.o.trans (cm.o.mono (by have:=cU.o.size;omega))).trans (hA.mono (by have:=cU.o.size;have:=cm.o.size;omega)));have Hh:=aq hN;clear hA hN a5
 go_upto_region 2 with(fail);generalize aj:AI w2 _=W3 at *;generalize am:w2.1.size=bc at *;clear aj;have a8:=aa (ae W3 (.cells #[.func (.func 101) #[.pointer (some bc)] #[],.func (.func 102) #[.pointer (some bc)] #[],.func (.func 103) #[.pointer (some bc)] #[],.func (.func 104) #[.pointer (some bc)] #[],.func (.func 105) #[.pointer (some bc)] #[],.func (.func 106) #[.pointer (some bc)] #[],.func (.func 107) #[.pointer (some bc)] #[],.func (.func 108) #[.pointer (some bc)] #[]] 157));have ab:=aa (b9 W3 (.cells #[.func (.func 101) #[.pointer (some bc)] #[],.func (.func 102) #[.pointer (some bc)] #[],.func (.func 103) #[.pointer (some bc)] #[],.func (.func 104) #[.pointer (some bc)] #[],.func (.func 105) #[.pointer (some bc)] #[],.func (.func 106) #[.pointer (some bc)] #[],.func (.func 107) #[.pointer (some bc)] #[],.func (.func 108) #[.pointer (some bc)] #[]] 157));go_upto_region 4 with(fail);generalize ak:AI W3 _=W4 at *;generalize Rz:W3.1.size=Br at *;clear ak;have eI:=aa (cJ.o.trans (a8.o.mono (by have:=cJ.o.size;omega)));have V9:Hid (gY W4 bc g a):=aa (I3.o.below ⟨a8.o.os,a8.o.tape,a8.o.output,a8.o.size,fun k hk=>a8.o.block k Tc1⟩);clear a8 I3 cJ cm cU CN;go_loopw[33] (fun i wr=>∃k:Nat,k<=8/\i=.int .i64 k/\Below W4.1.size W4 wr) (fun i _=>8-(intOf i).toNat)
 exact⟨0,Tc1,rfl,bj _ _⟩;obtain⟨k,hk,rfl,hb⟩:=hrel;replace hb:=aa hb;have fy:Hid (Below w.1.size w wr):=aa (by rw[ai];exact eI.o.trans (hb.o.mono (by have:=eI.o.size;omega)));have th:=V9.o.below hb.o;have G1:=hg.o.mv (Mv.of fy.o);have a9:=MD.o.below fy.o;have hN:=(hb.o.block Br (aq ab.o)).trans ab.o;by_cases hlt:k<8
 ·have ag:k=0\/k=1\/k=2\/k=3\/k=4\/k=5\/k=6\/k=7:=by omega
  obtain⟨h1,h2,h3,h4,h5,h6,h7,h8⟩:=HR.o;have q:∃Qj,wr.cell? (Br,k)=some (.func (.func Qj) #[.pointer (some bc)] #[])/\(∀(l:Array Value) (W:World),Sem.run prog (callFunc Qj l) W=.ok (.enter Qj l) W)/\Calls prog Qj #[.pointer (some bc)] wr (OkM wr):=by
   have hx:=(iT h1).1;have mu:=mZ h4;rcases ag with rfl|rfl|rfl|rfl|rfl|rfl|rfl|rfl
   ·exact⟨_,cr hN _ _ rfl,fun l W=>by go_simp,Nw (ok:=ok) g a bc wr th G1 hi.o.tx a9 h1⟩
   ·exact⟨_,cr hN _ _ rfl,fun l W=>by go_simp,Nf (ok:=ok) g a bc wr th G1 hi.o.tx ⟨hx.2.2.1,hx.2.2.2.1⟩ a9 fun k d hd=>by have:=ll (i:=0) h2 k d hd;rwa[eJ]at this⟩
   ·exact⟨_,cr hN _ _ rfl,fun l W=>by go_simp,LQ (ok:=ok) g a bc wr th G1 hi.o.tx a9 fun k v hv=>by have:=ll (i:=0) h3 k v hv;rwa[eJ]at this⟩
   ·exact⟨_,cr hN _ _ rfl,fun l W=>by go_simp,Lu (ok:=ok) g a bc wr th G1 hi.o.sz ⟨hx.2.2.1,hx.2.2.2.1⟩ hi.o.kw (fun v hv k s hs=>Kv h4 hv hs) fun v hv s hs=>(mu v hv s hs).fm⟩
   ·exact⟨_,cr hN _ _ rfl,fun l W=>by go_simp,GY (ok:=ok) g a bc wr th G1 (zm hi.o h1 h2 h3 h4) a9 (Dh h5) fun v hv s hs=>Nj h4 hv hs⟩
   ·exact⟨_,cr hN _ _ rfl,fun l W=>by go_simp,Ns (ok:=ok) g a bc wr th G1 (zm hi.o h1 h2 h3 h4) (Cg h3 h4) mu fun v hv s hs=>NZ h6 hv hs⟩
   ·exact⟨_,cr hN _ _ rfl,fun l W=>by go_simp,Lg (ok:=ok) g a bc wr th G1 (zm hi.o h1 h2 h3 h4) (Er hi.o h1 h2 h3 h4 h5) h7⟩
   exact⟨_,cr hN _ _ rfl,fun l W=>by go_simp,NI (ok:=ok) g a bc wr th G1 hi.o.sz (Ao (iT h1).2 h3 h4) (yB hi.o) (fun v hv=>by have:=(nH h3 v hv).2.1;unfold maxLen;omega) fun v hv=>sS h8 v hv⟩
  obtain⟨Qj,q0,ah,hc⟩:=q;have Uy:=aa ah;replace hc:=aa hc;clear h1 h2 h3 h4 h5 h6 h7 h8 ag ah hN th G1 a9;go_wp2_with fail;rw[Uy.o];refine hc.o.mono ?_;rintro e w5 ⟨rfl,hb5⟩;have eK:=Zbl hb hb5;clear hc hb5 fy hb q0;exact Tcf
 obtain rfl:k=8:=by omega
 clear hN th G1 a9;go_wp2;go_ret2;exact⟨rfl,fy.o⟩
def TdK{p:Prop}(h:p:=by rw[HT.o,HQ.o];rfl):p:=h
def Tes{p:Prop}(h:p:=by simp[eu,Sz]):p:=h
def Tep{p:Prop}(h:p:=by rw[HNB.o];rfl):p:=h
def TdJ{p:Prop}(h:p:=by rw[HPE.o,HRE.o];rfl):p:=h
def Td1{p:Prop}(h:p:=by rw[yi.o];simp):p:=h
def yQ{ok:Nat->Prop}(g:af)(a:bN)(r:aY)(w:World)(hg:dN ok w g a)(hi:GOk g)(hr:dK r)(hS:AW w) :
  Calls prog 25 #[.agg (Tad g a),.agg (Tal r)] w (FY (kP g r) w):=by
 replace hg:=aa hg;replace hi:=aa hi;replace hS:=aa hS;obtain⟨hl,hs,he,hp,ht,hn,hq⟩:=hr;have hA1:=ae w (.cells (Tad g a) 31);have hA2:=ae (w.alloc (.cells (Tad g a) 31)) (.cells (Tal r) 34);have RW:=b9 w (.cells (Tad g a) 31);have kc:=b9 (w.alloc (.cells (Tad g a) 31)) (.cells (Tal r) 34);rw[cW]at kc;have Fm:Hid (jF ((w.alloc (.cells (Tad g a) 31)).alloc (.cells (Tal r) 34)) w.1.size (w.1.size+1) g a r):=aa ⟨(hA2.block _ (aq RW)).trans RW,kc⟩;have cU:=aa (hA1.trans (hA2.mono hA1.size));clear hA1 hA2 RW kc;go_enter func25,ntmps25
 go_upto_region 1 with(fail);generalize R0:AI (AI w _) _=W1 at *;generalize ak:w.1.size=Bg at *;generalize Rz:Bg+1=Br at *;clear R0;have Tm:Hid (Below w.1.size w W1):=aa (by rw[ak];exact cU.o);clear cU;have gL:=Fm.o.gc;obtain⟨g0,g1,g2,g3,g4,g5,g6,g7,g8⟩:=xr gL;clear gL;go_wp2_with fail;clear g0 g1 g2 g3 g4 g5 g6 g7 g8;refine(Nn (ok:=ok) g a W1 (hg.o.mv (Mv.of Tm.o)) hi.o.gi (hS.o.below Tm.o) hi.o.mk0).mono ?_;rintro e w2 ⟨rfl,hb2⟩;have cm:=Zbl Tm hb2;have ag:=aa (Fm.o.below hb2);clear hb2 Tm Fm;have HPE:Hid (kP g r=yZ g r):=aa (aw hi.o.mk0);go_upto_region 4 with(fail);have gL:=ag.o.gc;obtain⟨g0,g1,g2,g3,g4,g5,g6,g7,g8⟩:=xr gL;clear gL;have rL:=ag.o.rc;have r5:=rL 5 _ rfl;clear rL;have Uz:=aa (fA (ok:=fun b=>ok b/\b<w.1.size) g a r.near w2 ((ck.moves aN.moves).mv ⟨cm.o.size,fun b hb ho=>⟨⟨ho,hb⟩,cm.o.block b hb⟩⟩ (dN.F9 hg.o)) hi.o.gi.sz.vl hi.o.gi.sz.vz);go_wp2_with fail;clear g0 g1 g2 g3 g4 g5 g6 g7 g8 r5;refine Uz.o.mono ?_;clear Uz;rintro e w3 ⟨u,rfl,sA,hb3⟩;have cJ:=Zbl cm hb3;have C6:=aa (ag.o.below hb3);have HNB:Hid (xM g r=if r.near.toList.isEmpty then !OC r else(aM g.F9 r.near).isSome):=aa rfl;generalize (aM g.F9 r.near).isSome=YW at *;obtain⟨tv,sv,rfl,ew,fL⟩:=sA;obtain⟨tp,tc,rfl,_,_⟩:=ew.cap;obtain⟨sp,sc,rfl,am,ao⟩:=fL.cap;clear ew fL hb3 cm ag;generalize (aM g.F9 r.near).getD eY=v at *;have hA:=ae w3 (.cells (Tah v tp tc sp sc) 68);have eI:=Zbl cJ hA;have Sy:=aa (C6.o.below hA);clear hA cJ C6;go_upto_region 5 with(fail);generalize au:AI w3 _=W4 at *;clear au;have rL:=Sy.o.rc;obtain⟨r0,r1,r2,r3,r4,r5,r6⟩:=se rL;clear rL;go_cut[9] (fun v wc=>v=.bool (OC r)/\wc=W4)
 case first =>
  cases h2:(r.Gg==2)with
  |true =>
   go_wp2;go_meet;exact⟨by simp[OC,h2],rfl⟩
  |false =>
   cases h3:(r.Gg==3)with
   |true =>
    go_wp2;go_meet;exact⟨by simp[OC,h3],rfl⟩
   |false =>
    go_wp2;go_meet;exact⟨by simp[OC,h2,h3],rfl⟩
 case rest =>
  obtain⟨rfl,rfl⟩:=hcut;generalize OC r=c at *;have HW:=aa uT;have HRE:Hid (yZ g r=if Dr r=false then 1 else if Ek r.Gg 5=false then 17 else if xM g r=false then 12 else if(eu r.tag&&eu r.sep)=false then 2 else 0):=aa rfl;go_upto_region 7 with(fail);go_cut[34] (fun v wx=>v=.bool (!Dr r)/\wx=wc)
  case first =>
   have a7:=uT r.Gi 6 wc;have zc:=uT r.Gh 6 wc;have a8:=uT r.Gc 4096 wc;have yi:Hid (Dr r=(Ek r.Gi 6&&Ek r.Gh 6&&decide (r.Gi*r.Gh<=6)&&Ek r.Gc 4096)):=aa rfl;cases h1:Ek r.Gi 6 with
   |false =>
    rw[h1]at a7 yi;have H1:=aa h1;clear h1;go_wp2_with(first|((with_reducible refine a7.mono ?_);rintro e w5 ⟨rfl,rfl⟩)|((with_reducible refine zc.mono ?_);rintro e w5 ⟨rfl,rfl⟩)|((with_reducible refine a8.mono ?_);rintro e w5 ⟨rfl,rfl⟩))
    go_meet;exact⟨Td1,rfl⟩
   |true =>
    have av:1<=r.Gi/\r.Gi<=6:=by simpa[Ek]using h1
    rw[h1]at a7 yi;have H1:=aa h1;clear h1;cases h2:Ek r.Gh 6 with
    |false =>
     rw[h2]at zc yi;have H2:=aa h2;clear h2;go_wp2_with(first|((with_reducible refine a7.mono ?_);rintro e w5 ⟨rfl,rfl⟩)|((with_reducible refine zc.mono ?_);rintro e w5 ⟨rfl,rfl⟩)|((with_reducible refine a8.mono ?_);rintro e w5 ⟨rfl,rfl⟩))
     go_meet;exact⟨Td1,rfl⟩
    |true =>
     have hb2:1<=r.Gh/\r.Gh<=6:=by simpa[Ek]using h2
     rw[h2]at zc yi;have H2:=aa h2;clear h2;have ah:0<=r.Gi*r.Gh:=oA Tc1 Tc1;have ai:r.Gi*r.Gh<=6*6:=tW av.2 hb2.2 Tc1 Tc1;have az:IntKind.i64.wrap (r.Gi*r.Gh)=r.Gi*r.Gh:=dy _ Tc1;replace ah:=aa ah;replace ai:=aa ai;by_cases h3:r.Gi*r.Gh<=6
     ·have hp:decide (6<r.Gi*r.Gh)=false:=cN Tc1;rw[eA h3]at yi;have H3:=aa h3;clear h3;cases h4:Ek r.Gc 4096 with
      |false =>
       rw[h4]at a8 yi;have H4:=aa h4;clear h4;go_wp2_with(first|((with_reducible refine a7.mono ?_);rintro e w5 ⟨rfl,rfl⟩)|((with_reducible refine zc.mono ?_);rintro e w5 ⟨rfl,rfl⟩)|((with_reducible refine a8.mono ?_);rintro e w5 ⟨rfl,rfl⟩))
       go_meet;exact⟨Td1,rfl⟩
      |true =>
       rw[h4]at a8 yi;have H4:=aa h4;clear h4;go_wp2_with(first|((with_reducible refine a7.mono ?_);rintro e w5 ⟨rfl,rfl⟩)|((with_reducible refine zc.mono ?_);rintro e w5 ⟨rfl,rfl⟩)|((with_reducible refine a8.mono ?_);rintro e w5 ⟨rfl,rfl⟩))
       go_meet;exact⟨Td1,rfl⟩
     have hp:decide (6<r.Gi*r.Gh)=true:=eA Tc1;rw[cN h3]at yi;have H3:=aa h3;clear h3;go_wp2_with(first|((with_reducible refine a7.mono ?_);rintro e w5 ⟨rfl,rfl⟩)|((with_reducible refine zc.mono ?_);rintro e w5 ⟨rfl,rfl⟩)|((with_reducible refine a8.mono ?_);rintro e w5 ⟨rfl,rfl⟩))
     go_meet;exact⟨Td1,rfl⟩
  case rest =>
   obtain⟨rfl,rfl⟩:=hcut;have eK:=aa eI.o;cases sB:Dr r with
   |false =>
    rw[sB,aw rfl]at HRE;go_wp2;go_ret;exact⟨TdJ,eI.o⟩
   |true =>
    rw[sB,bh Tc2]at HRE;have yi:=aa sB;clear sB;by_cases hp1:1<=r.Gg
    ·by_cases hp5:r.Gg<=5
     ·have a5:Ek r.Gg 5=true:=by simp[Ek,hp1,hp5]
      rw[a5,bh Tc2]at HRE;have aj:=aa a5;clear a5;have a9:decide (r.Gg<1)=false:=cN Tc1;have ay:decide (5<r.Gg)=false:=cN Tc1;go_upto_region 11 with(fail);go_cut[71] (fun v wx=>v=.bool (!xM g r)/\wx=wc)
      case first =>
       cases hne:r.near.toList.isEmpty with
       |true =>
        rw[hne,aw rfl]at HNB;cases c with
        |true =>
         go_wp2;go_meet;exact⟨Tep,rfl⟩
        |false =>
         go_wp2;go_meet;exact⟨Tep,rfl⟩
       |false =>
        rw[hne,bh Tc2]at HNB;cases YW with
        |true =>
         go_wp2;go_meet;exact⟨Tep,rfl⟩
        |false =>
         go_wp2;go_meet;exact⟨Tep,rfl⟩
      case rest =>
       obtain⟨rfl,rfl⟩:=hcut;cases sy:xM g r with
       |false =>
        rw[sy,aw rfl]at HRE;have HN:=aa sy;clear sy;go_wp2;go_ret;exact⟨TdJ,eI.o⟩
       |true =>
        rw[sy,bh Tc2]at HRE;have HN:=aa sy;clear sy;go_upto_region 13 with(fail);go_cut[87] (fun v wx=>v=.bool (!(eu r.tag&&eu r.sep))/\Below wc.1.size wc wx)
        case first =>
         have ab:=ry r.tag wc ht;cases PE:r.tag.toList.isEmpty with
         |true =>
          have HT:Hid (eu r.tag=true):=aa (by simp[eu,PE]);have a9:=ry r.sep wc hq;cases Sz:r.sep.toList.isEmpty with
          |true =>
           have HQ:Hid (eu r.sep=true):=aa Tes;go_wp2;go_meet;exact⟨TdK,bj _ _⟩
          |false =>
           have HQ:Hid (eu r.sep=mr r.sep):=aa Tes;cases htb:mr r.sep with
           |true =>
            rw[htb]at a9 HQ;have WM:=aa htb;clear htb;go_wp2_with((with_reducible refine a9.mono ?_);rintro e w5 ⟨rfl,hb5⟩)
            go_meet;exact⟨TdK,hb5⟩
           |false =>
            rw[htb]at a9 HQ;have WM:=aa htb;clear htb;go_wp2_with((with_reducible refine a9.mono ?_);rintro e w5 ⟨rfl,hb5⟩)
            go_meet;exact⟨TdK,hb5⟩
         |false =>
          have HT:Hid (eu r.tag=mr r.tag):=aa (by simp[eu,PE]);cases htb:mr r.tag with
          |false =>
           rw[htb]at ab HT;have WM:=aa htb;clear htb;go_wp2_with((with_reducible refine ab.mono ?_);rintro e w5 ⟨rfl,hb5⟩)
           go_meet;exact⟨by rw[HT.o];rfl,hb5⟩
          |true =>
           rw[htb]at ab HT;have WM:=aa htb;clear htb;go_wp2_with fail;refine ab.mono ?_;rintro e w5 ⟨rfl,hb5⟩;have eK:=aa hb5;have rL:=(Sy.o.below hb5).rc;clear r0 r1 r2 r3 r4 r5 r6 hb5;have r6:=rL 6 _ rfl;clear rL;have Lz:=aa (ry r.sep w5 hq);clear ab;cases Sz:r.sep.toList.isEmpty with
           |true =>
            have HQ:Hid (eu r.sep=true):=aa Tes;go_wp2;go_meet;exact⟨TdK,eK.o⟩
           |false =>
            have HQ:Hid (eu r.sep=mr r.sep):=aa Tes;cases htb:mr r.sep with
            |true =>
             rw[htb]at Lz HQ;have WN:=aa htb;clear htb;go_wp2_with fail;refine Lz.o.mono ?_;rintro e w6 ⟨rfl,mw⟩;have Tq:=Zbl eK mw;clear mw r6;go_wp2;go_meet;exact⟨TdK,Tq.o⟩
            |false =>
             rw[htb]at Lz HQ;have WN:=aa htb;clear htb;go_wp2_with fail;refine Lz.o.mono ?_;rintro e w6 ⟨rfl,mw⟩;have Tq:=Zbl eK mw;clear mw r6;go_wp2;go_meet;exact⟨TdK,Tq.o⟩
        case rest =>
         obtain⟨rfl,PX⟩:=hcut;have B3:=Zbl eI PX;clear PX;cases gw:(eu r.tag&&eu r.sep)with
         |true =>
          rw[gw,bh Tc2]at HRE;have j9:=aa gw;clear gw;go_wp2;go_ret;exact⟨TdJ,B3.o⟩
         |false =>
          rw[gw,aw rfl]at HRE;have j9:=aa gw;clear gw;go_wp2;go_ret;exact⟨TdJ,B3.o⟩
     have a5:Ek r.Gg 5=false:=by simp[Ek,hp5]
     rw[a5,aw rfl]at HRE;have aj:=aa a5;clear a5;have a9:decide (r.Gg<1)=false:=cN Tc1;have ay:decide (5<r.Gg)=true:=eA Tc1;go_wp2;go_ret;exact⟨TdJ,eI.o⟩
    have a5:Ek r.Gg 5=false:=by simp[Ek,hp1]
    rw[a5,aw rfl]at HRE;have aj:=aa a5;clear a5;have a9:decide (r.Gg<1)=true:=eA Tc1;go_wp2;go_ret;exact⟨TdJ,eI.o⟩
end Go.Proofs.YtaagglbgohjldaaGreatDoor
