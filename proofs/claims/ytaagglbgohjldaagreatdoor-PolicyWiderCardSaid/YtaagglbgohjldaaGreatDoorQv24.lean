/- Lemmas: NeeF, PolA, SpCa, RanC, RanE. -/
import Derived.Test.YtaagglbgohjldaaGreatDoorQv23
import Derived.Shelf.Sort.Plain
import Derived.Shelf.Slices.In.SortNone
import Derived.RangeFuncNested
import Derived.RangeFuncBound
import Derived.Shelf.RegionOpen
import Derived.OwnWalkIn
import Derived.LoopNIn
import Derived.LoopIn
set_option maxRecDepth 100000
set_option maxHeartbeats 32000000
set_option linter.all false
namespace Go.Proofs.YtaagglbgohjldaaGreatDoor
open Go.Proofs.Tryz
open Go.RowKit Go.Maps Go.Shelf
variable {l:List aB}{k:Nat}{s:aB}{g:af}
def onB (AL:List aR)(d:ByteArray):Bool:=AL.any fun a=>decide (a.on=d)&&!a.vol
def onF (AL:List aR):Value->Option Value
 | .string s=>if (AL.any fun a=>decide (a.on=s))=true then some (.bool (onB AL s)) else none
 | _=>none
theorem Al (AL:List aR)(s:ByteArray):(onF AL (.string s)).getD (.bool false)=.bool (onB AL s):=by
 show (if (AL.any fun a=>decide (a.on=s))=true then some (Value.bool (onB AL s)) else none).getD (.bool false)=_;by_cases h:(AL.any fun a=>decide (a.on=s))=true
 ·rw [aw h];rfl
 rw [bh h];have:onB AL s=false:=by
  unfold onB;rw [List.any_eq_false];intro a ha e;simp only [eh] at e;exact h (List.any_eq_true.2 ⟨a,ha,e.1⟩)
 rw [this];rfl
theorem wZ (AL:List aR)(a:aR)(s:ByteArray):onB (AL++[a]) s=(onB AL s||(decide (a.on=s)&&!a.vol)):=by
 unfold onB;rw [rj];simp
theorem DJ (AL:List aR)(a:aR)(key:Value):onF (AL++[a]) key=upd (onF AL) (.string a.on) (.bool (onB AL a.on||!a.vol)) key:=by
 by_cases h:key=.string a.on
 ·subst h;rw [upd_same];simp [onF,wZ]
 rw [bP h];unfold onF;split
 ·rename_i s;have:¬ a.on=s:=fun e=>h Tdm;rw [wZ,rj];simp [this]
 rfl
def bV (l:List aB):List aR:=l.flatMap (·.Ga)
def dB (F9:List ay)(P:List ByteArray):List aR:=P.flatMap fun x=>bV ((aM F9 x).getD eY).Gf
theorem o9 (h:l[k]?=some s):bV (l.take (k+1))=bV (l.take k)++s.Ga:=by
 rw [take_snoc' l k s h];simp [bV]
theorem A8 (h:l[k]?=some s):(bV (l.take k)).length+s.Ga.length<=(bV l).length:=by
 have:(bV l).length=(bV (l.take (k+1))).length+(bV (l.drop (k+1))).length:=by
  conv=>lhs;rw [<- rk (k+1) l]
  unfold bV;rw [xt,cD]
 rw [this,o9 h,cD];omega
theorem xN (F9:List ay){l:List ByteArray}{x:ByteArray}(h:l[k]?=some x):dB F9 (l.take (k+1))=dB F9 (l.take k)++bV ((aM F9 x).getD eY).Gf:=by
 rw [take_snoc' l k x h];simp [dB]
theorem FI (F9:List ay)(P:List ByteArray)(d:ByteArray):onB (dB F9 P) d=P.any (XZ F9 d):=by
 unfold onB dB;rw [List.any_flatMap];congr 1
 funext x
 unfold XZ bV;rw [List.any_flatMap];rfl
structure rT (g:af):Prop where
 us:uw g
 dn:∀ d∈g.Gb,d.name.size<=maxLen
 dl:g.Gb.length<=1000
 ar:∀ v∈g.F9,(bV v.Gf).length<=1000
 an:∀ v∈g.F9,∀ s∈v.Gf,∀ a∈s.Ga,a.on.size<=maxLen
theorem rV (h:rT g)(x:ByteArray):(bV ((aM g.F9 x).getD eY).Gf).length<=1000:=by
 cases hf:aM g.F9 x with
 | none=>simp [eY,bV]
 | some v=>exact h.ar v (eV hf)
theorem rX (h:rT g):∀ P:List ByteArray,(dB g.F9 P).length<=1000*P.length
 | []=>by simp [dB]
 | x :: P=>by
  have h1:=rV h x;have h2:=rX h P;unfold dB at h2 ⊢;rw [lB,cD,cS];omega
theorem Kc (h:rT g)(x:ByteArray):∀ s∈((aM g.F9 x).getD eY).Gf,∀ a∈s.Ga,a.on.size<=maxLen:=by
 cases hf:aM g.F9 x with
 | none=>simp [eY]
 | some v=>exact h.an v (eV hf)
open Classical in
theorem Cx {F9:List ay}{nm:ByteArray}{met:List ByteArray}(h:∀ x,x∈met↔Reach (dU F9) ((dU F9 nm).getD []) x)(x:ByteArray):bI (met++[nm]) x=Fj F9 nm x:=by
 unfold Fj;rw [mN,ny,fk,oT,List.mem_singleton,h x];exact Or.comm
theorem o8 {α:Type}(nm:α->ByteArray){p q:ByteArray->Bool}(h:∀ x,p x=q x)(l:List α):gD nm p l=gD nm q l:=by
 rw [show p=q from funext h]
attribute [local go_sem] run_makeMap_plain
theorem Cf {ok:Nat->Prop}(g:af)(a:bN)(nm:ByteArray)(w:World)(hr:ck aN 6 ok w [.slice a.vp g.F9.length a.vc] g.F9)(hd:ck aO 7 ok w [.slice a.dp g.Gb.length a.dc] g.Gb)(hz:rT g)(pD:nm.size<=maxLen) :
  Calls prog 26 #[.agg (Tad g a),.string nm] w (Dx w.heap.size w (sP g nm)):=by
 have HG:=aa hr;clear hr;have HD:=aa hd;have HZ:=aa hz;have CD:=hz.dl;clear hz;obtain ⟨dp,dc,RM,Wf,Wh⟩:=hd.cap;clear hd;have Pt:g.Gb.length<=a.dc/\a.dc<=9223372036854775807:=by
  injection RM with e1 e2 e3;omega
 clear RM Wf Wh dp dc;have hA1:=ae w (.cells (Tad g a) 31);have cU:=aa hA1;clear hA1;have CN:=aa (b9 w (.cells (Tad g a) 31));have gL:=cr CN.o;go_enter func26,ntmps26
 go_upto_region 1 with (fail);generalize hW1:World.alloc w _=W1 at *;obtain ⟨g0,g1,g2,g3,g4,g5,g6,g7,g8⟩:=xr gL;clear gL hW1;go_wp2_with fail;clear g0 g1 g2 g3 g4 g5 g6 g7 g8;refine (AY (ok:=ok) g a nm W1 ((ck.moves aN.moves).mv (Mv.of cU.o) HG.o) HZ.o.us pD).mono ?_;rintro e w2 ⟨bm,met,rfl,C4,LQ,hml,hb2,Hv⟩;have HRE:=aa LQ;clear LQ;have tj:=aa C4;clear C4;have cm:=Zbl cU hb2;have pH:=Zbk hb2 CN;have ab2:=aq CN.o;clear hb2 cU CN;have hA:=ae w2 (.cells #[.map (some bm)] 120);have Ul:=aa (b9 w2 (.cells #[.map (some bm)] 120));have LR:=aa (tj.o.block (hA.block _ tj.o.lt));have cJ:=Zbl cm hA;have LS:=Zbk hA pH;have aj8:=cm.o.size;have ab3:=tj.o.lt;clear hA tj pH cm;go_upto_region 2 with (fail);generalize hW3:World.alloc w2 _=W3 at *;generalize hBx:w2.heap.size=Bx at *;clear hW3;have x0:=cr Ul.o 0 _ rfl;obtain ⟨w4,hst,hm',hg',hz'⟩:=bi.store LR.o oM underlying120 TcN (key:=.string nm) (gG nm pD) (.bool true);have Pu:Hid (bi prog 9 w4 bm (met.length+1) (oN (met++[nm]))):=aa (hm'.congr fun key _ _=>uH met nm key);have eI:Hid (Below w.heap.size w w4):=aa (cJ.o.trans ((cR.grown hg').below (B:=w.heap.size) cJ.o.size (fun q e=>by omega)));have Wi:=aa (((cR.grown hg').block Bx (aq Ul.o) TcC).trans Ul.o);have Nq:=aa (((cR.grown hg').block w.heap.size (aq LS.o) TcC).trans LS.o);clear hm' hg' hz' LR Ul LS cJ;go_upto_region 3 with (fail);clear hst x0;have hA:=ae w4 (.map #[] 0);have Pr:=aa (bi.made prog 9 w4);have Np:=aa (Pu.o.block (hA.block _ Pu.o.lt));have eK:=Zbl eI hA;have Wj:=Zbk hA Wi;have Nr:=Zbk hA Nq;have hbz:=aq Nq.o;clear hA Pu Wi Nq eI;go_upto_region 4 with (fail);generalize hW5:World.alloc w4 _=W5 at *;generalize hbo:w4.heap.size=bo at *;clear hW5;have gL:=cr Nr.o;obtain ⟨g0,g1,g2,g3,g4,g5,g6,g7,g8⟩:=xr gL;clear gL;go_wp2_with fail;clear g0 g1 g2 g3 g4 g5 g6 g7 g8;refine (Dw (ok:=ok) g a Bx bm _ (met++[nm]) W5 ((ck.moves aN.moves).mv (Mv.of eK.o) HG.o) HZ.o.us (by simp [World.cell?,Wj.o]) (aq Wj.o) Np.o).mono ?_;rintro e w6 ⟨pv,rfl,how,hb6⟩;have LU:Hid (gD ay.name (bI (met++[nm])) g.F9=mR g.F9 nm):=aa (o8 _ (Cx HRE.o) _);rw [LU.o] at how;have hpn:(mR g.F9 nm).length<=1000:=cA (lq _ _ _) HZ.o.us.vl;have as7:=Pr.o.lt;have Wk:Hid (ck aF 1 (fun b=>b≠bo) w6 [pv] (mR g.F9 nm)):=aa (how.rd fun b e=>by have:=(fh how b e).1;show b≠bo;omega);have Ns:Hid (sP g nm=gD az.name (onB (dB g.F9 (mR g.F9 nm))) g.Gb):=aa (o8 _ (fun d=>(FI g.F9 _ d).symm) _);clear how LU HRE;have Pv:=aa (Pr.o.block (hb6.block bo as7));have Tq:=Zbl eK hb6;have RN:=Zbk hb6 Nr;have YH:Hid (∀ i,(dB g.F9 ((mR g.F9 nm).take i)).length<=1000000):=aa fun i=>by
  have h1:=rX HZ.o ((mR g.F9 nm).take i);rw [ey] at h1;have:1000*min i (mR g.F9 nm).length<=1000*1000:=Nat.mul_le_mul_left _ TcC;omega
 have C5:=Pv.o.lt;clear hb6 Pr Np Wj Nr eK;generalize hP:mR g.F9 nm=P at *;have HPD:=aa hP;clear hP;obtain ⟨pp,pc,e,Wl,Wm⟩:=Wk.o.cap;subst e;have YI:Hid (bi prog 9 w6 bo 0 (onF [])):=aa (Pv.o.congr fun key _ _=>by unfold onF;split <;> rfl);clear Pv;go_upto_region 5 with (fail);go_loopw [28] (fun i wr=>∃ k:Nat,k<=P.length/\i=.int .i64 k/\cR (fun b=>b=bo) w6 wr/\bi prog 9 wr bo (dB g.F9 (P.take k)).length (onF (dB g.F9 (P.take k)))) (fun i _=>P.length - (intOf i).toNat)
 exact ⟨0,cg _,rfl,cR.refl _ _,YI.o⟩;clear YI;obtain ⟨k,hk,rfl,Gk,C4⟩:=hrel;have sq:=aa Gk;clear Gk;have tj:=aa C4;clear C4;have fy:Hid (Below w.heap.size w wr):=aa (Tq.o.trans (sq.o.below Tq.o.size (fun b e=>by omega)));have Pw:=aa ((sq.o.block _ (aq RN.o) TcC).trans RN.o);by_cases hlt:k<P.length
 ·obtain ⟨x,hx⟩:=aj P k hlt;obtain ⟨b,off,us,rfl,gR,cX,ez,eE,hcv⟩:=Wk.o.elem hx;obtain rfl:us=_:=eE;have q0:=(sq.o.cell (p:=⟨b,off+k*1+0,none⟩) cX gR).trans (hcv 0 _ rfl);rw [fp,fg] at q0;have HAS:=aa (xN g.F9 hx);clear hx hcv ez;have gL:=cr Pw.o;obtain ⟨g0,g1,g2,g3,g4,g5,g6,g7,g8⟩:=xr gL;clear gL;have HCV:=aa (fA (ok:=fun b=>ok b/\b<w.heap.size) g a x wr ((ck.moves aN.moves).mv ⟨fy.o.size,fun b hb ho=>⟨⟨ho,hb⟩,fy.o.block b hb⟩⟩ HG.o) HZ.o.us.sz.vl HZ.o.us.sz.vz);go_wp2_with fail;clear g0 g1 g2 g3 g4 g5 g6 g7 g8 q0;refine HCV.o.mono ?_;clear HCV;rintro e w7 ⟨u,rfl,sA,hb7⟩;have Qb:=aa (rV HZ.o x);have HAN:=aa (Kc HZ.o x);generalize hv:(aM g.F9 x).getD eY=v at *;have XR:=aa hv;clear hv;have ab4:=sq.o.size;replace sA:=aN.moves.mv (ok':=fun b=>b≠bo) ⟨bk _,fun b _ ho=>⟨by show b≠bo;rcases ho with ho | ho <;> omega,rfl⟩⟩ sA;obtain ⟨tv,sv,rfl,ew,fL⟩:=sA;obtain ⟨tp,tc,rfl,_,_⟩:=ew.cap;obtain ⟨sp,sc,rfl,hsc1,hsc2⟩:=fL.cap;have RO:=aa (sq.o.trans (cR.of_below (F:=fun _=>False) hb7) (fun _ f=>f.elim));have Px:=aa (tj.o.block (hb7.block bo tj.o.lt));clear ew hb7 tj sq fy Pw;have hA:=ae w7 (.cells (Taf v tp tc sp sc) 68);have zv:=aa (b9 w7 (.cells (Taf v tp tc sp sc) 68));have Wn:=aa (RO.o.trans (cR.of_below (F:=fun _=>False) hA) (fun _ f=>f.elim));have RP:=aa (Px.o.block (hA.block bo Px.o.lt));have Zv:=aa ((ck.moves bC.moves).mv (Mv.of hA) fL);clear fL hA RO Px;go_upto_region 8 with (fail);generalize hW8:World.alloc w7 _=W8 at *;generalize hBv:w7.heap.size=Bv at *;clear hW8;have v5:=cr zv.o 5 _ rfl;go_upto_region 9 with (fail);clear v5 zv;have Ug:Hid (∀ j,(dB g.F9 (P.take k)++bV (v.Gf.take j)).length<=2000000):=aa fun j=>by
   have h1:=YH.o k;have h2:(bV (v.Gf.take j)).length<=(bV v.Gf).length:=by
    conv=>rhs;rw [<- rk j v.Gf]
    unfold bV;rw [xt,cD];omega
   have h3:=Qb.o;rw [cD];omega
  have RQ:Hid (bi prog 9 W8 bo (dB g.F9 (P.take k)++bV (v.Gf.take 0)).length (onF (dB g.F9 (P.take k)++bV (v.Gf.take 0)))):=aa (by rw [iv,show bV []=[] from rfl,eM];exact RP.o);clear RP;go_loopw [41] (fun i wi=>∃ j:Nat,j<=v.Gf.length/\i=.int .i64 j/\cR (fun b=>b=bo) W8 wi/\bi prog 9 wi bo (dB g.F9 (P.take k)++bV (v.Gf.take j)).length (onF (dB g.F9 (P.take k)++bV (v.Gf.take j)))) (fun i _=>v.Gf.length - (intOf i).toNat)
  exact ⟨0,cg _,rfl,cR.refl _ _,RQ.o⟩;clear RQ;obtain ⟨j,hj,rfl,Gk,C4⟩:=hrel;have sq:=aa Gk;clear Gk;have tj:=aa C4;clear C4;by_cases hlt2:j<v.Gf.length
  ·obtain ⟨s,hs⟩:=aj v.Gf j hlt2;obtain ⟨b2,off2,us2,hsp,I0,C2,B5,C3,hcv2⟩:=Zv.o.elem hs;subst hsp;obtain ⟨av,Oz,rfl,py,hst2⟩:=C3;obtain ⟨ap,ac,rfl,_,_⟩:=py.cap;obtain ⟨eN,eR,rfl,_,_⟩:=hst2.cap;have AD:wr.heap[b2]?=W8.heap[b2]?:=sq.o.block b2 C2 I0;obtain ⟨q0,q1,q2,q3,q4,q5,q6,q7,q8,q9,q10⟩:=ak5 AD hcv2;have Wo:=aa (o9 hs);have Wp:=aa (HAN.o s (ct hs));have ab5:s.Ga.length<=1000:=by have:=A8 hs;have:=Qb.o;omega
   clear hs hcv2 B5 AD hst2;have hA:=ae wr (.cells (Tae s ap ac eN eR) 114);have lj:=aa (b9 wr (.cells (Tae s ap ac eN eR) 114));have LO:=aa (sq.o.trans (cR.of_below (F:=fun _=>False) hA) (fun _ f=>f.elim));have Nn:=aa (tj.o.block (hA.block bo tj.o.lt));have ya:=aa ((ck.moves aQ.moves).mv (Mv.mod LO.o (fun b e ho=>ho e)) py);clear py hA sq tj;go_upto_region 11 with (fail);clear q0 q1 q2 q3 q4 q5 q6 q7 q8 q9 q10;generalize hW9:World.alloc wr _=W9 at *;generalize hBs:wr.heap.size=Bs at *;clear hW9;have s3:=cr lj.o 3 _ rfl;go_upto_region 12 with (fail);clear s3 lj;generalize Pn:dB g.F9 (P.take k)++bV (v.Gf.take j)=AL at *;have Wb:AL.length<=2000000:=by have:=Ug.o j;rw [Pn] at this;exact this
   have Wq:=aa Pn;clear Pn;have RR:Hid (bi prog 9 W9 bo (AL++s.Ga.take 0).length (onF (AL++s.Ga.take 0))):=aa (by rw [iv,eM];exact Nn.o);clear Nn;go_loopw [48] (fun i wi=>∃ m:Nat,m<=s.Ga.length/\i=.int .i64 m/\cR (fun b=>b=bo) W9 wi/\bi prog 9 wi bo (AL++s.Ga.take m).length (onF (AL++s.Ga.take m))) (fun i _=>s.Ga.length - (intOf i).toNat)
   exact ⟨0,cg _,rfl,cR.refl _ _,RR.o⟩;clear RR;obtain ⟨m,hm,rfl,Gk,C4⟩:=hrel;have sq:=aa Gk;clear Gk;have tj:=aa C4;clear C4;by_cases hlt3:m<s.Ga.length
   ·obtain ⟨r,hr⟩:=aj s.Ga m hlt3;obtain ⟨b3,off3,us3,hsp3,B7,PV,pT,Tr,hcv3⟩:=ya.o.elem hr;subst hsp3;obtain rfl:us3=_:=Tr;have Tl:wr.heap[b3]?=W9.heap[b3]?:=sq.o.block b3 PV B7;obtain ⟨q0,q1,q2⟩:=Mn Tl hcv3;have HTS:=aa (take_snoc' s.Ga m r hr);have hns:=Wp.o r (ct hr);clear hr hcv3 pT Tl;have hA:=ae wr (.cells (Tau r) 53);have yb:=aa (b9 wr (.cells (Tau r) 53));have Ws:=aa (sq.o.trans (cR.of_below (F:=fun _=>False) hA) (fun _ f=>f.elim));have LR:=aa (tj.o.block (hA.block bo tj.o.lt));have hll:(AL++s.Ga.take m).length<=3000000:=by rw [cD,ey];omega
    clear hA sq tj;go_upto_region 14 with (fail);clear q0 q1 q2;generalize hW10:World.alloc wr _=W10 at *;generalize NU:wr.heap.size=Ba at *;clear hW10;have a0:=cr yb.o 0 _ rfl;have a1:=cr yb.o 1 _ rfl;have hmk:=(bi.look LR.o oM underlying120 (wY W10) (key:=.string r.on) (gG r.on hns)).1;rw [Al] at hmk;have HST:∀ z:Bool,z=(onB (AL++s.Ga.take m) r.on||!r.vol)->∃ w',(Instr.mapUpdate 120 (.map (some bo)) (.string r.on) (.bool z)).run prog W10=.ok () w'/\bi prog 9 w' bo (AL++s.Ga.take (m+1)).length (onF (AL++s.Ga.take (m+1)))/\cR (fun b=>b=bo) W9 w':=fun z hz=>by
     obtain ⟨w',hst,hm',hg',hz'⟩:=bi.store LR.o oM underlying120 TcN (key:=.string r.on) (gG r.on hns) (.bool z);refine ⟨w',hst,?_,Ws.o.trans (cR.grown hg') (fun i e=>.inl e)⟩;rw [HTS.o,<- cV,cD];subst hz;exact hm'.congr fun key _ _=>DJ _ r key
    have RU:=aa HST;clear HST;generalize Le:onB (AL++s.Ga.take m) r.on=ob at *;have Vz:=aa Le;clear Le;cases ob with
    | true =>
     obtain ⟨w',hst,hm',oY⟩:=RU.o true TcD;have Pg:=aa hm';clear hm';have xd:=aa oY;clear oY;go_wp2;go_roundw;exact ⟨m+1,TcC,TcG,xd.o,Pg.o⟩;simp [intOf];omega
    | false =>
     obtain ⟨w',hst,hm',oY⟩:=RU.o (!r.vol) TcD;have Pg:=aa hm';clear hm';have xd:=aa oY;clear oY;go_wp2;go_roundw;exact ⟨m+1,TcC,TcG,xd.o,Pg.o⟩;simp [intOf];omega
   obtain rfl:m=s.Ga.length:=by omega
   rw [cI] at tj;have Py:Hid (bi prog 9 wr bo (dB g.F9 (P.take k)++bV (v.Gf.take (j+1))).length (onF (dB g.F9 (P.take k)++bV (v.Gf.take (j+1))))):=aa (by rw [Wo.o,<- cV,Wq.o];exact tj.o);have Pz:=aa (LO.o.trans sq.o (fun i e=>.inl e));clear tj sq;go_wp2;go_roundw;exact ⟨j+1,TcC,TcG,Pz.o,Py.o⟩;simp [intOf];omega
  obtain rfl:j=v.Gf.length:=by omega
  rw [cI] at tj;have Py:Hid (bi prog 9 wr bo (dB g.F9 (P.take (k+1))).length (onF (dB g.F9 (P.take (k+1))))):=aa (by rw [HAS.o];exact tj.o);have Pz:=aa (Wn.o.trans sq.o (fun i e=>.inl e));clear tj sq;go_wp2;go_roundw;exact ⟨k+1,TcC,TcG,Pz.o,Py.o⟩;simp [intOf];omega
 obtain rfl:k=P.length:=by omega
 rw [cI] at tj;generalize dB g.F9 P=AL at *;clear Wk HPD YH;have Wt:=aa ((ck.moves aO.moves).mv (ok':=fun b=>ok b/\b<w.heap.size) ⟨fy.o.size,fun b hb ho=>⟨⟨ho,hb⟩,fy.o.block b hb⟩⟩ HD.o);have g6:=cr Pw.o 6 _ rfl;go_upto_region 20 with (fail);clear g6;obtain ⟨W11,hW11⟩:∃ W,W=wr:=⟨_,rfl⟩;subst hW11;have YJ:=Pt.1;have YK:=Pt.2;clear Pt;generalize Wu:a.dp=dpx at *;generalize Wv:a.dc=dcx at *;clear Wu Wv;have RX:=fy.o.size
 go_loopw [15,70] (fun l i wi=>∃ m:Nat,m<=g.Gb.length/\i=.int .i64 m/\dF wi W11.heap.size l (gD az.name (onB AL) (g.Gb.take m))/\Below W11.heap.size W11 wi) (fun _ i _=>g.Gb.length - (intOf i).toNat)
 exact ⟨0,cg _,rfl,dF.nil _ _,bj _ _⟩;obtain ⟨m,hm,rfl,hown,hB⟩:=hrel;have HOW:=aa hown;clear hown;have HB:=aa hB;clear hB;have hpl:=lq az.name (onB AL) (g.Gb.take m);rw [ey] at hpl;by_cases hlt4:m<g.Gb.length
 ·obtain ⟨d,hd⟩:=aj g.Gb m hlt4;obtain ⟨b,off,us,hsp,gR,cX,ez,eE,hcv⟩:=Wt.o.elem hd;have hns:=HZ.o.dn d (ct hd);obtain ⟨tv,rfl,ew⟩:=eE;obtain ⟨tp,tc,rfl,_,_⟩:=ew.cap;subst hsp;have cT:wr.heap[b]?=W11.heap[b]?:=HB.o.block b cX;obtain ⟨q0,q1,q2,q3,q4,q5,q6⟩:=OD cT hcv;have sY:=aa (rJ az.name (onB AL) hd);clear hd hcv ez cT ew;have hA:=ae wr (.cells (Tah d tp tc) 51);have sX:=aa (b9 wr (.cells (Tah d tp tc) 51));have cm:=Zbl HB hA;have HOW2:=aa (HOW.o.below hA);clear hA;go_upto_region 22 with (fail);clear q0 q1 q2 q3 q4 q5 q6;generalize hW12:World.alloc wr _=W12 at *;generalize hBd:wr.heap.size=Bd at *;clear hW12 HB HOW;have d0:=cr sX.o 0 _ rfl;have RY:=cm.o.size;have hmk:=(bi.look (tj.o.block (cm.o.block bo tj.o.lt)) oM underlying120 (wY W12) (key:=.string d.name) (gG d.name hns)).1;rw [Al] at hmk;obtain ⟨lp,lc,e,_,_⟩:=(HOW2.o.rd (ok:=fun _=>True) (fun _ _=>trivial)).cap;subst e;have LP:=aa (eT (ok:=fun _=>True) _ d.name _ W12 (HOW2.o.rd (ok:=fun _=>True) (fun _ _=>trivial)) TcC);generalize Ps:gD az.name (onB AL) (g.Gb.take m)=pl at *;have RL:=aa Ps;clear Ps;cases hh:onB AL d.name with
  | false =>
   rw [hh] at hmk sY;rw [Bool.false_and,bh TcD] at sY;have HH:=aa hh;clear hh;clear LP;go_wp2;go_roundw;exact ⟨m+1,TcC,TcG,Td1,cm.o⟩;simp [intOf];omega
  | true =>
   rw [hh] at hmk sY;rw [Bool.true_and] at sY;have HH:=aa hh;clear hh;cases hc:bI pl d.name with
   | true =>
    rw [hc] at LP sY;rw [bh TcD] at sY;have HC:=aa hc;clear hc;go_wp2_with (refine LP.o.mono ?_;rintro e w3 ⟨rfl,rfl⟩)
    go_roundw;exact ⟨m+1,TcC,TcG,Td1,cm.o⟩;simp [intOf];omega
   | false =>
    rw [hc] at LP sY;rw [aw TcD] at sY;have HC:=aa hc;clear hc;go_wp2_with (first | (refine LP.o.mono ?_;rintro e w3 ⟨rfl,rfl⟩) | (at_builtin;refine dz rfl _ _ rfl W11.heap.size _ pl d.name rfl ?c1 W12.heap.size 1 rfl ?c2 ?c3 ?c4 ?_))
    case c1=>exact HOW2.o.alloc _
    case c2=>exact aD rfl rfl
    case c3=>omega
    case c4=>simp;omega
    intro v' w13 hown1 hb1 _;have eI:=aa ((cm.o.alloc RY _).trans hb1);have HOW4:=aa hown1;clear hb1 hown1;go_wp2;go_roundw;exact ⟨m+1,TcC,TcG,by rw [sY.o];exact HOW4.o,eI.o⟩;simp [intOf];omega
 obtain rfl:m=g.Gb.length:=by omega
 rw [cI] at HOW;have B3:Hid (Below w.heap.size w wr):=aa (fy.o.trans (HB.o.mono RX));go_wp2;go_ret;exact ⟨_,rfl,by rw [Ns.o];exact HOW.o.mono RX,B3.o⟩
end Go.Proofs.YtaagglbgohjldaaGreatDoor
namespace Go.Proofs.YtaagglbgohjldaaGreatDoor
open Go.Proofs.Tryz
open Go.RowKit Go.Maps Go.Shelf
variable {w W W':World}{Bg Br B n:Nat}{g:af}{a:bN}{r:aY}{row:Option Nat}
def Ek (n m:Int):Bool:=decide (1<=n)&&decide (n<=m)
def Dr (r:aY):Bool:=Ek r.Gi 6&&Ek r.Gh 6&&decide (r.Gi*r.Gh<=6)&&Ek r.Gc 4096
def OC (r:aY):Bool:=r.Gg == 2||r.Gg == 3
def xM (g:af)(r:aY):Bool:=if r.near.toList.isEmpty then !OC r else (aM g.F9 r.near).isSome
def eu (s:ByteArray):Bool:=s.toList.isEmpty||mr s
def yZ (g:af)(r:aY):Int:=if Dr r=false then 1 else if Ek r.Gg 5=false then 17 else if xM g r=false then 12 else if (eu r.tag&&eu r.sep)=false then 2 else 0
def kP (g:af)(r:aY):Int:=if (mchk g).2=0 then yZ g r else (mchk g).2
theorem uT (n m:Int)(w:World) :
  Calls prog 59 #[.int .i64 n,.int .i64 m] w fun e w'=>e=.returned (.bool (Ek n m))/\w=w':=by
 go_enter func59,ntmps59
 by_cases h1:1<=n
 ·by_cases h2:n<=m
  ·go_wp2;go_ret;exact ⟨ah (by simp [Ek,h1,h2]),rfl⟩
  go_wp2;go_ret;exact ⟨ah (by simp [Ek,h2]),rfl⟩
 go_wp2;go_ret;exact ⟨ah (by rw [Ek,cN (by omega:¬ 1<=n)];rfl),rfl⟩
theorem ry (s:ByteArray)(w:World)(hs:s.size<=9223372036854775807):Calls prog 60 #[.string s] w fun e w'=>e=.returned (.bool (mr s))/\Below w.heap.size w w':=Af s w hs
def Tal (x0:aY):Tab #[.int .i64 x0.Gi,.int .i64 x0.Gh,.int .i64 x0.Gc,.int .i64 x0.Gg,.string x0.tag,.string x0.near,.string x0.sep]:=⟨⟩
structure jF (w:World)(Bg Br:Nat)(g:af)(a:bN)(r:aY):Prop where
 g:w.heap[Bg]?=some (.cells (Tad g a) 31 (0,0))
 r:w.heap[Br]?=some (.cells (Tal r) 34 (0,0))
theorem jF.below {w':World}(h:jF w Bg Br g a r)(hb:Below w.heap.size w w'):jF w' Bg Br g a r :=
 ⟨(hb.block _ (aq h.g)).trans h.g,(hb.block _ (aq h.r)).trans h.r⟩
theorem jF.gc (h:jF w Bg Br g a r)(i:Nat)(z:Value)(hz:[.string g.name,.int .u64 g.id,.int .i64 g.seq,.int .i64 g.Gd,.int .i64 g.next,.slice a.tp g.tags.length a.tc,.slice a.dp g.Gb.length a.dc,.slice a.vp g.F9.length a.vc,.slice a.hp g.history.length a.hc][i]?=some z):w.cell? (Bg,i)=some z:=by
 simp only [World.cell?,h.g];simpa using hz
theorem jF.rc (h:jF w Bg Br g a r)(i:Nat)(z:Value)(hz:[.int .i64 r.Gi,.int .i64 r.Gh,.int .i64 r.Gc,.int .i64 r.Gg,.string r.tag,.string r.near,.string r.sep][i]?=some z):w.cell? (Br,i)=some z:=by
 simp only [World.cell?,h.r];simpa using hz
def FY (n:Int)(w:World)(e:Ending)(w':World):Prop:=e=.returned (.int .i64 n)/\Below w.heap.size w w'
attribute [local go_sem] Oper.semAt_some
theorem Ew (name:ByteArray)(id seq ext nx:Int)(tp dp vp hp:Option Addr)(tl tc dl dc vl vc hl hc:Nat)(w:World) :
  Calls prog 115 #[.agg (Tao name id seq ext nx tl tp tc dl dp dc vl vp vc hl hp hc)] w fun e w'=>e=.returned (.func (.func 161) #[] #[.pointer (some w.heap.size)])/\w'=w.alloc (.cells (Tao name id seq ext nx tl tp tc dl dp dc vl vp vc hl hp hc) 31):=by
 go_enter func115,ntmps115;go_wp2;go_ret;exact ⟨rfl,rfl⟩
theorem xu {k:Nat}{a:Array Value}{b:TypeId}{c:Nat × Nat}(hg:W.grownBy W' row)(hr:∀ r,row=some r->B<=r/\∃ o:Obj,W.heap[r]?=some o/\o.isCells=false)(h:W.heap[k]?=some (.cells a b c)):W'.heap[k]?=some (.cells a b c) :=
 (hg.block k (aq h) (fun e=>by
  obtain ⟨_,o,ho,hc⟩:=hr k e.symm;rw [h] at ho;injection ho with ho;subst ho
  cases hc)).trans h
theorem keepR {B' sz:Nat}{t:TypeId}{v:Value}{xs:List Value}(hg:W.grownBy W' row)(hr:∀ r,row=some r->B<=r/\∃ o:Obj,W.heap[r]?=some o/\o.isCells=false)(h:W.ownsRow B' t sz v n xs):W'.ownsRow B' t sz v n xs:=by
 refine aC h fun k e=>?_;rcases h.2 with ⟨rfl,_⟩ | ⟨g,cap,cur,rfl,_,hgg,_⟩
 ·cases e
 obtain rfl:g=k:=by injection e
 exact (xu hg hr hgg).trans hgg.symm
theorem DZ {F:Fence}{P:Program}{ops:Array Oper}{Q:Exit->Act->World->Prop}{o:Oper}{l:List Oper}{a:Act}(h:Hid (wpListIn F n P ops Q (o :: l) a w)):wpListIn F n P ops Q (o :: l) a w:=h.o
end Go.Proofs.YtaagglbgohjldaaGreatDoor
namespace Go.Proofs.YtaagglbgohjldaaGreatDoor
open Go.Proofs.Tryz
open Go.RowKit
def Ey (w:World)(v:Value)(ls:List (List (Int × Int))):Prop :=
 ∃ g cap,v=.slice (some ⟨g,0,none⟩) ls.length cap/\ls.length<=cap/\cap<=9223372036854775807/\g<w.heap.size/\∀ (i:Nat) (l:List (Int × Int)),ls[i]?=some l->∃ u,w.cell? ⟨g,i,none⟩=some u/\xo w u l
theorem xZ (ls:List (List (Int × Int)))(k:Nat)(l:List (Int × Int))(h:ls[k]?=some l)(hv:dI l=false):ls.all dI=false:=by
 rw [lr];exact ⟨l,ct h,by simp [hv]⟩
theorem BN (ls:List (List (Int × Int)))(k:Nat)(l:List (Int × Int))(h:ls[k]?=some l)(ha:(ls.take k).all dI=true)(hv:dI l=true):(ls.take (k+1)).all dI=true:=by
 rw [take_snoc' ls k l h,List.all_append,ha];simp [hv]
theorem qK (ls:List (List (Int × Int)))(v:Value)(w:World)(hr:Ey w v ls) :
  Calls prog 119 #[v] w fun e w'=>e=.returned (.bool (ls.all dI))/\Below w.heap.size w w':=by
 obtain ⟨g,cap,rfl,hlc,ij,hg,hc⟩:=hr;go_enter func119,ntmps119;go_wp2
 go_loopw [9] (fun i wr=>∃ k:Nat,k<=ls.length/\i=.int .i64 k/\(ls.take k).all dI=true/\Below w.heap.size w wr) (fun i _=>ls.length - (intOf i).toNat)
 exact ⟨0,cg _,rfl,rfl,bj _ _⟩;obtain ⟨k,hk,rfl,hall,hb⟩:=hrel;have cE:=aa hall;clear hall;by_cases hlt:k<ls.length
 ·obtain ⟨l,hl⟩:=aj ls k hlt;obtain ⟨u,hu,Um⟩:=hc k l hl;have hcell:wr.cell? (g,k)=some u:=(hb.cell (p:=⟨g,k,none⟩) hg).trans hu;obtain ⟨p,cap2,rfl,hlc2,ar5,hp2⟩:=Um.below hb;have HL:=aa hl;clear hc hu Um hl;go_wp2;obtain ⟨wo,rfl⟩:∃ wo:World,wo=wr:=⟨_,rfl⟩
  go_loopw [15] (fun i wr=>∃ j:Nat,j<=l.length/\i=.int .i64 j/\dI (l.take j)=true/\Below wo.heap.size wo wr) (fun i _=>l.length - (intOf i).toNat)
  exact ⟨0,cg _,rfl,rfl,bj _ _⟩;obtain ⟨j,hj,rfl,hall2,hb2⟩:=hrel;have sR:=aa hall2;clear hall2;by_cases hlt2:j<l.length
  ·obtain ⟨b,off,rfl,gO,hc⟩:=hp2 TcC;obtain ⟨x,hx⟩:=aj l j hlt2;have hcc:=(hc.below hb2 gO) j x hx;have hc1:=hcc.1;have hc2:=hcc.2;have HX:=aa hx;clear hc hp2 hcc hx;go_wp2_with fail;refine (AQ _ _ _).mono ?_;rintro e w1 ⟨rfl,hb1⟩;have hb3:Below wo.heap.size wo w1:=mn (hb2.alloc hb2.size _) hb1;cases hv:nT x.1 x.2
   ·go_wp2;go_ret;exact ⟨ah (xZ ls k l HL.o (zA l j x HX.o hv)).symm,mn hb hb3⟩
   go_wp2;go_roundw;exact ⟨j+1,TcC,TcG,Cm l j x HX.o sR.o hv,hb3⟩;simp [intOf];omega
  go_wp2;go_roundw;exact ⟨k+1,TcC,TcG,BN ls k l HL.o cE.o (Ce l j TcC sR.o),mn hb hb2⟩;simp [intOf];omega
 go_wp2;go_ret;refine ⟨ah ?_,hb⟩;have:=cE.o;rw [jz TcC] at this;exact this.symm
theorem Cz (w:World)(v:Value)(l:List (Int × Int))(t:TypeId)(h:xo w v l):Ey (w.alloc (.cells #[v] t)) (.slice (some w.heap.size) 1 1) [l]:=by
 refine ⟨w.heap.size,1,rfl,TcD,TcC,TcD,fun i l' hi=>?_⟩
 match i,hi with
 | 0,hi =>
  simp at hi;subst hi;exact ⟨v,Tdl,h.below ((bj _ _).alloc (bk _) _)⟩
 | i+1,hi=>simp at hi
theorem xK (w:World)(v1 v2:Value)(l1 l2:List (Int × Int))(t:TypeId)(h1:xo w v1 l1)(h2:xo w v2 l2):Ey (w.alloc (.cells #[v1,v2] t)) (.slice (some w.heap.size) 2 2) [l1,l2]:=by
 refine ⟨w.heap.size,2,rfl,TcD,TcC,TcD,fun i l' hi=>?_⟩
 match i,hi with
 | 0,hi =>
  simp at hi;subst hi;exact ⟨v1,Tdl,h1.below ((bj _ _).alloc (bk _) _)⟩
 | 1,hi =>
  simp at hi;subst hi;exact ⟨v2,Tdl,h2.below ((bj _ _).alloc (bk _) _)⟩
 | i+2,hi=>simp at hi
def zz (w:World)(S:Int->Prop)(N:Nat)(e:Ending)(w':World):Prop :=
 ∃ v x,e=.returned (.tuple #[v,.int .i64 0])/\bM w' w.heap.size v x/\iE x S/\x.length<=N/\Below w.heap.size w w'
theorem tJ (l:List (Int × Int))(v:Value)(w:World)(hr:xo w v l)(hval:dI l=true)(hlen:l.length<=10000000) :
  Calls prog 72 #[v] w (zz w (Mem l) l.length):=by
 have HV:=aa hval;clear hval;have hr0:=hr;obtain ⟨p0,cap0,rfl,_⟩:=hr0;go_enter func72,ntmps72
 go_wp2_with fail;refine (qK [l] _ _ (Cz w _ l _ hr)).mono ?_;rintro e w1 ⟨rfl,hb1⟩;have hb01:Below w.heap.size w w1:=mn ((bj _ _).alloc (bk _) _) hb1;have hv:[l].all dI=true:=by simp [HV.o]
 go_wp2_with fail;refine (jJ l _ w1 (hr.below hb01) HV.o hlen).mono ?_;rintro e w2 ⟨v2,x,rfl,ho,hx,vh,hb2⟩;go_wp2;go_ret2;exact ⟨v2,x,rfl,ho.mono hb01.size,hx,vh,mn hb01 hb2⟩
theorem El {x l:List (Int × Int)}(hx:iE x (Mem l))(hv:dI l=true):∀ p∈x,0<=p.1/\1<=p.2/\p.1+p.2<=1073741824:=fun p hp=>by
 have h1:=hx.1.1 p hp;obtain ⟨a,ha,ha1,_⟩:=(hx.2 p.1).1 ⟨p,hp,TcC,TcC⟩;obtain ⟨b,hb,_,hb2⟩:=(hx.2 (p.1+p.2 - 1)).1 ⟨p,hp,TcC,TcC⟩;have:=iF hv a ha;have:=iF hv b hb;omega
theorem GR {α:Type}(x:List α)(k:Nat)(y:α)(h:x[k]?=some y):x.drop k=y :: x.drop (k+1):=by
 obtain ⟨hk,rfl⟩:=List.getElem?_eq_some_iff.1 h;exact tB hk
open Go.Sort
def eU (l:List (Int × Int)):List Int:=l.flatMap fun p=>[p.1,p.1+p.2]
theorem xw (l:List (Int × Int))(k:Nat)(x:Int × Int)(h:l[k]?=some x):eU (l.take (k+1))=eU (l.take k)++[x.1,x.1+x.2]:=by
 rw [take_snoc' l k x h];simp [eU]
theorem kE (l:List (Int × Int)):(eU l).length=2*l.length:=by
 induction l with
 | nil=>rfl
 | cons p l ih=>simp [eU] at *;omega
def dV (ls:List (List (Int × Int))):List Int:=ls.flatMap eU
theorem xJ (ls:List (List (Int × Int)))(k:Nat)(l:List (Int × Int))(h:ls[k]?=some l):dV (ls.take (k+1))=dV (ls.take k)++eU l:=by
 rw [take_snoc' ls k l h];simp [dV]
theorem qE (N:Nat)(ls:List (List (Int × Int)))(h:∀ l∈ls,l.length<=N):(dV ls).length<=2*N*ls.length:=by
 induction ls with
 | nil=>simp [dV]
 | cons l ls ih =>
  have h1:=ih (fun l hl=>h l (by simp [hl]));have h2:=h l TcD;have h3:=kE l;simp only [dV,lB,cD,cS] at *;rw [Nat.mul_add,fp];omega
def Cq (P:List Int)(Z:List Int):Prop:=P.Pairwise (·<·)/\∀ n,n∈P↔n∈Z
theorem Bp (B:Nat)(l:List Int)(v:Value)(w:World)(ho:eG w B v l)(hlen:l.length<=100000000) :
  Calls prog 186 #[v] w fun e w'=>e=.returned (.tuple #[])/\eG w' B v (l.mergeSort fun x y=>decide (x<=y))/\Below B w w':=by
 by_cases h0:0<l.length
 ·obtain ⟨g,cap,rfl,hB,hg,hc,_,hH⟩:=ho.holds h0;have hcon:=Any.slices_Sort_int Tryz.lays189 g 0 cap l w hH hg TcC;change Calls prog 186 _ _ _ at hcon;refine hcon.mono ?_;rintro e w' ⟨rfl,n,os,rfl⟩;have:=eG.sorted (n:=n) (os:=os) (s:=l.mergeSort fun x y=>decide (x<=y)) ho (DO l);exact ⟨rfl,this.1,this.2⟩
 have hl:l=[]:=fX TcC;subst hl;obtain ⟨p,cap,rfl,_⟩:=ho.rd;refine (Any.slices_Sort_int_none Tryz.lays189 p cap w).mono ?_;rintro e w' ⟨rfl,rfl⟩;exact ⟨rfl,by simpa using ho,bj _ _⟩
theorem TbP {p:Prop}(h:p:=by
 induction m with
 | zero=>simp [Lib.compactUpTo]
 | succ m ih=>rw [Lib.compactUpTo_succ];split <;> simp <;> omega):p:=h
theorem vJ (B:Nat)(l:List Int)(v:Value)(w:World)(ho:eG w B v l)(hlen:l.length<=100000000) :
  Calls prog 187 #[v] w fun e w'=>∃ v',e=.returned v'/\eG w' B v' (Lib.compact l)/\Below B w w':=by
 by_cases h0:0<l.length
 ·obtain ⟨g,cap,rfl,hB,hg,hc,hcm,hH⟩:=ho.holds h0;have hcon:=Any.slices_Compact_int Tryz.laysNm220 g 0 cap l w hH TcC hc;change Calls prog 187 _ _ _ at hcon;refine hcon.mono ?_;rintro e w' ⟨rfl,q,rfl⟩
  have hle:(Lib.compact l).length<=l.length:=by
   have:∀ m,(Lib.compactUpTo l.toArray m).length<=m:=fun m=>by
    exact TbP
   exact this l.length
  have h1:=Lib.ownsRow_putRow (enc:=Value.int .i64) (q:=q) (k:=(Lib.compact l).length) (ys:=Lib.compact l++List.replicate (l.length - (Lib.compact l).length) 0) ho TcH hle;rw [List.take_left] at h1;exact ⟨_,rfl,h1,Lib.below_putRow (bj _ _) hB⟩
 have hl:l=[]:=fX TcC;subst hl;obtain ⟨p,cap,rfl,_⟩:=ho.rd;refine (Any.slices_Compact_int_empty Tryz.laysNm220 p cap w).mono ?_;rintro e w' ⟨rfl,rfl⟩;exact ⟨_,rfl,ho,bj _ _⟩
def Fg (w:World)(Z:List Int)(e:Ending)(w':World):Prop:=∃ v P,e=.returned v/\eG w' w.heap.size v P/\Cq P Z/\P.length<=Z.length/\Below w.heap.size w w'
theorem Az (Z:List Int):Cq (Lib.compact (Z.mergeSort fun x y=>decide (x<=y))) Z/\(Lib.compact (Z.mergeSort fun x y=>decide (x<=y))).length<=Z.length:=by
 have hs:(Z.mergeSort fun x y=>decide (x<=y)).Pairwise (·<=·):=by
  have:=List.pairwise_mergeSort (le:=fun x y:Int=>decide (x<=y)) (fun a b c h1 h2=>by simp at *;omega) (fun a b=>by simp;omega) Z;exact this.imp (fun h=>by simpa using h)
 obtain ⟨h1,h2⟩:=qi _ hs;refine ⟨⟨h1,fun n=>(h2 n).trans ?_⟩,?_⟩
 ·exact (List.mergeSort_perm Z _).mem_iff
 have:∀ (d:Array Int) m,(Lib.compactUpTo d m).length<=m:=fun d m=>by
  exact TbP
 have:=this (Z.mergeSort fun x y=>decide (x<=y)).toArray (Z.mergeSort fun x y=>decide (x<=y)).length;rw [DO] at this;unfold Lib.compact;rw [DO];exact this
theorem Co (ls:List (List (Int × Int)))(v:Value)(w:World)(hr:Ey w v ls)(hval:ls.all dI=true)(U6:ls.length<=2)(hlen:∀ l∈ls,l.length<=10000000) :
  Calls prog 162 #[v] w (Fg w (dV ls)):=by
 have HV:=aa hval;have HLN:=aa hlen;clear hval hlen;obtain ⟨g,cap,rfl,hlc,ij,hg,hc⟩:=hr;go_enter func162,ntmps162;go_wp2
 go_loopw [3,10] (fun vo i wr=>∃ k:Nat,k<=ls.length/\i=.int .i64 k/\eG wr w.heap.size vo (dV (ls.take k))/\Below w.heap.size w wr) (fun _ i _=>ls.length - (intOf i).toNat)
 exact ⟨0,cg _,rfl,eG.nil _ _,bj _ _⟩;obtain ⟨k,hk,rfl,hown,hb⟩:=hrel;by_cases hlt:k<ls.length
 ·obtain ⟨l,hl⟩:=aj ls k hlt;obtain ⟨u,hu,Um⟩:=hc k l hl;have hcell:wr.cell? (g,k)=some u:=(hb.cell (p:=⟨g,k,none⟩) hg).trans hu;obtain ⟨p,cap2,rfl,hlc2,ar5,hp2⟩:=Um;have N9:l.length<=10000000:=HLN.o l (ct hl);have hol:(dV (ls.take k)).length<=40000000:=by
   have:=qE 10000000 (ls.take k) (fun l hl=>HLN.o l (tR hl));have h2:(ls.take k).length<=2:=by simp;omega
   omega
  have mb:dI l=true:=List.all_eq_true.1 HV.o l (ct hl);have Oc:=aa mb;have HL:=aa hl;obtain ⟨Z,hZ⟩:∃ Z,Z=dV (ls.take k):=⟨_,rfl⟩;rw [<- hZ] at hown hol;have HZ:=aa hZ;clear hc hu hl mb hZ;go_wp2;obtain ⟨wo,rfl⟩:∃ wo:World,wo=wr:=⟨_,rfl⟩
  go_loopw [3,16] (fun vo i wr=>∃ j:Nat,j<=l.length/\i=.int .i64 j/\eG wr w.heap.size vo (Z++eU (l.take j))/\Below w.heap.size w wr) (fun _ i _=>l.length - (intOf i).toNat)
  exact ⟨0,cg _,rfl,by simpa [eU] using hown,hb⟩;obtain ⟨j,hj,rfl,hown2,hb2⟩:=hrel;by_cases hlt2:j<l.length
  ·obtain ⟨b,off,rfl,gO,hc⟩:=hp2 TcC;obtain ⟨x,hx⟩:=aj l j hlt2;have hcc:=(hc.below hb2 gO) j x hx;have hc1:=hcc.1;have hc2:=hcc.2;obtain ⟨hx0,hx1,hx2⟩:=iF Oc.o x (ct hx);have Ww:(Z++eU (l.take j)).length<=80000000:=by
    rw [cD,kE];have:(l.take j).length<=10000000:=by simp;omega
    omega
   have HX:=aa hx;clear hc hp2 hcc hx;go_wp2_with (at_builtin;refine ve rfl _ _ rfl w.heap.size _ (Z++eU (l.take j)) x.1 (x.1+x.2) rfl ?c1 (wr.heap.size+1) 2 rfl ?c2 ?c3 TcC ?c4 ?_)
   case c1=>refine hown2.below ?_;(repeat' (first | exact bj _ _ | exact bk _ | (refine dT ?_ ?_ _) | (refine aT ?_ _) | (refine ee ?_) | (simp;done) | (simp;omega)))
   try (case c2=>exact aD TcD rfl)
   try (case c3=>exact aD TcD rfl)
   case c4=>have:=hb2.size;simp;omega
   intro v4 w4 ho4 hb4;have hb5:Below w.heap.size w w4:=(hb2.trans (by refine kt (B:=wr.heap.size) ?_ hb2.size;(repeat' (first | exact bj _ _ | exact bk _ | (refine dT ?_ ?_ _) | (refine aT ?_ _) | (refine ee ?_) | (simp;done) | (simp;omega))))).trans hb4;clear hb4 hown2 hb2;go_wp2;go_roundw;exact ⟨j+1,TcC,TcG,by rw [xw l j x HX.o];simpa using ho4,hb5⟩;simp [intOf];omega
  go_wp2;go_roundw;exact ⟨k+1,TcC,TcG,by rw [xJ ls k l HL.o,<- HZ.o];rw [jz (show l.length<=j by omega)] at hown2;exact hown2,hb2⟩;simp [intOf];omega
 have hkn:k=ls.length:=by omega
 subst hkn;rw [cI] at hown;have hol:(dV ls).length<=40000000:=by
  have:=qE 10000000 ls HLN.o;omega
 have YL:=Az (dV ls);have Qo:=aa YL;generalize dV ls=Z at *;clear YL;go_wp2_with fail;refine (Bp w.heap.size _ _ wr hown TcC).mono ?_;rintro e w1 ⟨rfl,ho1,hb1⟩;go_wp2_with fail;refine (vJ w.heap.size _ _ w1 ho1 (by rw [DO];omega)).mono ?_;rintro e w2 ⟨v2,rfl,ho2,hb2⟩;go_wp2;go_ret;exact ⟨v2,_,rfl,ho2,Qo.o.1,Qo.o.2,(hb.trans hb1).trans hb2⟩
theorem Td6 {p:Prop}(h:p:=by rw [LY];exact cU.o):p:=h
end Go.Proofs.YtaagglbgohjldaaGreatDoor
