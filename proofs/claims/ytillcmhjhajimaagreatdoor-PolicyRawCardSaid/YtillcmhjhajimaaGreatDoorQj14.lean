/- Lemmas: NeeF, ModZf, BltG, SpP, BltK, BltL. -/
import Derived.Test.YtillcmhjhajimaaGreatDoorQj13
set_option maxRecDepth 100000
set_option maxHeartbeats 32000000
set_option linter.all false
namespace Go.Proofs.YtillcmhjhajimaaGreatDoor
open Go.Proofs.Tryz
open Go.RowKit Go.Maps Go.Shelf
variable {l:List aB}{k:Nat}{s:aB}{g:af}
def onB(AL:List aR)(d:ByteArray):Bool:=AL.any fun a=>decide (a.on=d)&&!a.vol
def onF(AL:List aR):Value->Option Value
 |.string s=>if(AL.any fun a=>decide (a.on=s))=true then some (.bool (onB AL s)) else none
 |_=>none
theorem Al(AL:List aR)(s:ByteArray):(onF AL (.string s)).getD (.bool false)=.bool (onB AL s):=by
 show(if(AL.any fun a=>decide (a.on=s))=true then some (Value.bool (onB AL s)) else none).getD (.bool false)=_;by_cases h:(AL.any fun a=>decide (a.on=s))=true
 ·rw[aw h];rfl
 rw[bh h];have:onB AL s=false:=by
  unfold onB;rw[List.any_eq_false];intro a ha e;simp only[eh]at e;exact h (List.any_eq_true.2 ⟨a,ha,e.1⟩)
 rw[this];rfl
theorem wZ(AL:List aR)(a:aR)(s:ByteArray):onB (AL++[a]) s=(onB AL s||(decide (a.on=s)&&!a.vol)):=by
 unfold onB;rw[rj];simp
theorem DJ(AL:List aR)(a:aR)(key:Value):onF (AL++[a]) key=upd (onF AL) (.string a.on) (.bool (onB AL a.on||!a.vol)) key:=by
 by_cases h:key=.string a.on
 ·subst h;rw[upd_same];simp[onF,wZ]
 rw[bP h];unfold onF;split
 ·rename_i s;have:¬a.on=s:=fun e=>h Tdt;rw[wZ,rj];simp[this]
 rfl
def bV(l:List aB):List aR:=l.flatMap (·.Ga)
def dB(F9:List ay)(P:List ByteArray):List aR:=P.flatMap fun x=>bV ((aM F9 x).getD eY).Gf
theorem o9(h:l[k]?=some s):bV (l.take (k+1))=bV (l.take k)++s.Ga:=by
 rw[take_snoc' l k s h];simp[bV]
theorem A8(h:l[k]?=some s):(bV (l.take k)).length+s.Ga.length<=(bV l).length:=by
 have:(bV l).length=(bV (l.take (k+1))).length+(bV (l.drop (k+1))).length:=by
  conv=>lhs;rw[<- rk (k+1) l]
  unfold bV;rw[xt,cD]
 rw[this,o9 h,cD];omega
theorem xN(F9:List ay){l:List ByteArray}{x:ByteArray}(h:l[k]?=some x):dB F9 (l.take (k+1))=dB F9 (l.take k)++bV ((aM F9 x).getD eY).Gf:=by
 rw[take_snoc' l k x h];simp[dB]
theorem FI(F9:List ay)(P:List ByteArray)(d:ByteArray):onB (dB F9 P) d=P.any (XZ F9 d):=by
 unfold onB dB;rw[List.any_flatMap];congr 1
 funext x
 unfold XZ bV;rw[List.any_flatMap];rfl
structure rT(g:af):Prop where
 us:uw g
 dn:∀d∈g.Gb,d.name.size<=maxLen
 dl:g.Gb.length<=1000
 ar:∀v∈g.F9,(bV v.Gf).length<=1000
 an:∀v∈g.F9,∀s∈v.Gf,∀a∈s.Ga,a.on.size<=maxLen
theorem rV(h:rT g)(x:ByteArray):(bV ((aM g.F9 x).getD eY).Gf).length<=1000:=by
 cases hf:aM g.F9 x with
 |none=>simp[eY,bV]
 |some v=>exact h.ar v (eV hf)
theorem rX(h:rT g):∀P:List ByteArray,(dB g.F9 P).length<=1000*P.length
 |[]=>by simp[dB]
 |x :: P=>by
  have h1:=rV h x;have h2:=rX h P;unfold dB at h2 ⊢;rw[lB,cD,cS];omega
theorem Kc(h:rT g)(x:ByteArray):∀s∈((aM g.F9 x).getD eY).Gf,∀a∈s.Ga,a.on.size<=maxLen:=by
 cases hf:aM g.F9 x with
 |none=>simp[eY]
 |some v=>exact h.an v (eV hf)
open Classical in
theorem Cx{F9:List ay}{nm:ByteArray}{met:List ByteArray}(h:∀x,x∈met↔Reach (dU F9) ((dU F9 nm).getD []) x)(x:ByteArray):bI (met++[nm]) x=Fj F9 nm x:=by
 unfold Fj;rw[mN,ny,fk,oT,List.mem_singleton,h x];exact Or.comm
theorem o8{α:Type}(nm:α->ByteArray){p q:ByteArray->Bool}(h:∀x,p x=q x)(l:List α):gD nm p l=gD nm q l:=by
 rw[show p=q from funext h]
attribute [local go_sem] run_makeMap_plain
theorem Cf{ok:Nat->Prop}(g:af)(a:bN)(nm:ByteArray)(w:World)(hr:b6 aN 6 ok w [.slice a.vp g.F9.length a.vc] g.F9)(hd:b6 aO 7 ok w [.slice a.dp g.Gb.length a.dc] g.Gb)(hz:rT g)(pD:nm.size<=maxLen) :
  Calls prog 23 #[.agg (Tad g a),.string nm] w (Dx w.heap.size w (sP g nm)):=by
 have HG:=aa hr;clear hr;have HD:=aa hd;have HZ:=aa hz;have CD:=hz.dl;clear hz;obtain⟨dp,dc,RM,Wf,Wh⟩:=hd.cap;clear hd;have Pt:g.Gb.length<=a.dc/\a.dc<=9223372036854775807:=by
  injection RM with e1 e2 e3;omega
 clear RM Wf Wh dp dc;have hA1:=ae w (.cells (Tad g a) 32);have cU:=aa hA1;clear hA1;have CN:=aa (b9 w (.cells (Tad g a) 32));have gL:=cr CN.o;go_enter func23,ntmps23
 go_upto_region 1 with(fail);generalize hW1:World.alloc w _=W1 at *;obtain⟨g0,g1,g2,g3,g4,g5,g6,g7,g8⟩:=xr gL;clear gL hW1;go_wp2_with fail;clear g0 g1 g2 g3 g4 g5 g6 g7 g8;refine(AY (ok:=ok) g a nm W1 ((b6.moves aN.moves).mv (Mv.of cU.o) HG.o) HZ.o.us pD).mono ?_;rintro e w2 ⟨bm,met,rfl,C4,ap8,hml,hb2,Hv⟩;have V7:=aa ap8;clear ap8;have tj:=aa C4;clear C4;have cm:=Zbl cU hb2;have pH:=Zbk hb2 CN;have ab2:=aq CN.o;clear hb2 cU CN;have hA:=ae w2 (.cells #[.map (some bm)] 102);have Ul:=aa (b9 w2 (.cells #[.map (some bm)] 102));have LR:=aa (tj.o.block (hA.block _ tj.o.lt));have cJ:=Zbl cm hA;have LS:=Zbk hA pH;have aj8:=cm.o.size;have ab3:=tj.o.lt;clear hA tj pH cm;go_upto_region 2 with(fail);generalize hW3:World.alloc w2 _=W3 at *;generalize hBx:w2.heap.size=Bx at *;clear hW3;have x0:=cr Ul.o 0 _ rfl;obtain⟨w4,hst,hm',hg',hz'⟩:=bi.store LR.o oM underlying102 TcW (key:=.string nm) (gG nm pD) (.bool true);have Pu:Hid (bi prog 9 w4 bm (met.length+1) (oN (met++[nm]))):=aa (hm'.congr fun key _ _=>uH met nm key);have eI:Hid (Below w.heap.size w w4):=aa (cJ.o.trans ((cR.grown hg').below (B:=w.heap.size) cJ.o.size (fun q e=>by omega)));have HX4:=aa (((cR.grown hg').block Bx (aq Ul.o) TcN).trans Ul.o);have Nq:=aa (((cR.grown hg').block w.heap.size (aq LS.o) TcN).trans LS.o);clear hm' hg' hz' LR Ul LS cJ;go_upto_region 3 with(fail);clear hst x0;have hA:=ae w4 (.map #[] 0);have Pr:=aa (bi.made prog 9 w4);have Np:=aa (Pu.o.block (hA.block _ Pu.o.lt));have eK:=Zbl eI hA;have HX5:=Zbk hA HX4;have Nr:=Zbk hA Nq;have hbz:=aq Nq.o;clear hA Pu HX4 Nq eI;go_upto_region 4 with(fail);generalize hW5:World.alloc w4 _=W5 at *;generalize XG:w4.heap.size=bo at *;clear hW5;have gL:=cr Nr.o;obtain⟨g0,g1,g2,g3,g4,g5,g6,g7,g8⟩:=xr gL;clear gL;go_wp2_with fail;clear g0 g1 g2 g3 g4 g5 g6 g7 g8;refine(Dw (ok:=ok) g a Bx bm _ (met++[nm]) W5 ((b6.moves aN.moves).mv (Mv.of eK.o) HG.o) HZ.o.us (by simp[World.cell?,HX5.o]) (aq HX5.o) Np.o).mono ?_;rintro e w6 ⟨pv,rfl,how,hb6⟩;have HPE:Hid (gD ay.name (bI (met++[nm])) g.F9=mR g.F9 nm):=aa (o8 _ (Cx V7.o) _);rw[HPE.o]at how;have hpn:(mR g.F9 nm).length<=1000:=cA (lq _ _ _) HZ.o.us.vl;have as7:=Pr.o.lt;have HPR:Hid (b6 aF 1 (fun b=>b≠bo) w6 [pv] (mR g.F9 nm)):=aa (how.rd fun b e=>by have:=(fh how b e).1;show b≠bo;omega);have Ns:Hid (sP g nm=gD az.name (onB (dB g.F9 (mR g.F9 nm))) g.Gb):=aa (o8 _ (fun d=>(FI g.F9 _ d).symm) _);clear how HPE V7;have Pv:=aa (Pr.o.block (hb6.block bo as7));have Tq:=Zbl eK hb6;have RN:=Zbk hb6 Nr;have YH:Hid (∀i,(dB g.F9 ((mR g.F9 nm).take i)).length<=1000000):=aa fun i=>by
  have h1:=rX HZ.o ((mR g.F9 nm).take i);rw[ey]at h1;have:1000*min i (mR g.F9 nm).length<=1000*1000:=Nat.mul_le_mul_left _ TcN;omega
 have C5:=Pv.o.lt;clear hb6 Pr Np HX5 Nr eK;generalize hP:mR g.F9 nm=P at *;have HPD:=aa hP;clear hP;obtain⟨pp,pc,e,Wl,Wm⟩:=HPR.o.cap;subst e;have YI:Hid (bi prog 9 w6 bo 0 (onF [])):=aa (Pv.o.congr fun key _ _=>by unfold onF;split<;>rfl);clear Pv;go_upto_region 5 with(fail);go_loopw[28] (fun i wr=>∃k:Nat,k<=P.length/\i=.int .i64 k/\cR (fun b=>b=bo) w6 wr/\bi prog 9 wr bo (dB g.F9 (P.take k)).length (onF (dB g.F9 (P.take k)))) (fun i _=>P.length-(intOf i).toNat)
 exact⟨0,cg _,rfl,cR.refl _ _,YI.o⟩;clear YI;obtain⟨k,hk,rfl,Gk,C4⟩:=hrel;have sq:=aa Gk;clear Gk;have tj:=aa C4;clear C4;have fy:Hid (Below w.heap.size w wr):=aa (Tq.o.trans (sq.o.below Tq.o.size (fun b e=>by omega)));have Pw:=aa ((sq.o.block _ (aq RN.o) TcN).trans RN.o);by_cases hlt:k<P.length
 ·obtain⟨x,hx⟩:=aj P k hlt;obtain⟨b,off,us,rfl,gR,cX,ez,eE,hcv⟩:=HPR.o.elem hx;obtain rfl:us=_:=eE;have q0:=(sq.o.cell (p:=⟨b,off+k*1+0,none⟩) cX gR).trans (hcv 0 _ rfl);rw[fp,fg]at q0;have HAS:=aa (xN g.F9 hx);clear hx hcv ez;have gL:=cr Pw.o;obtain⟨g0,g1,g2,g3,g4,g5,g6,g7,g8⟩:=xr gL;clear gL;have Q5:=aa (fA (ok:=fun b=>ok b/\b<w.heap.size) g a x wr ((b6.moves aN.moves).mv ⟨fy.o.size,fun b hb ho=>⟨⟨ho,hb⟩,fy.o.block b hb⟩⟩ HG.o) HZ.o.us.sz.vl HZ.o.us.sz.vz);go_wp2_with fail;clear g0 g1 g2 g3 g4 g5 g6 g7 g8 q0;refine Q5.o.mono ?_;clear Q5;rintro e w7 ⟨u,rfl,sA,hb7⟩;have Qb:=aa (rV HZ.o x);have HAN:=aa (Kc HZ.o x);generalize hv:(aM g.F9 x).getD eY=v at *;have XR:=aa hv;clear hv;have ab4:=sq.o.size;replace sA:=aN.moves.mv (ok':=fun b=>b≠bo) ⟨bk _,fun b _ ho=>⟨by show b≠bo;rcases ho with ho|ho<;>omega,rfl⟩⟩ sA;obtain⟨tv,sv,rfl,ew,fL⟩:=sA;obtain⟨tp,tc,rfl,_,_⟩:=ew.cap;obtain⟨sp,sc,rfl,hsc1,hsc2⟩:=fL.cap;have RO:=aa (sq.o.trans (cR.of_below (F:=fun _=>False) hb7) (fun _ f=>f.elim));have Px:=aa (tj.o.block (hb7.block bo tj.o.lt));clear ew hb7 tj sq fy Pw;have hA:=ae w7 (.cells (Taf v tp tc sp sc) 57);have zv:=aa (b9 w7 (.cells (Taf v tp tc sp sc) 57));have Wn:=aa (RO.o.trans (cR.of_below (F:=fun _=>False) hA) (fun _ f=>f.elim));have RP:=aa (Px.o.block (hA.block bo Px.o.lt));have Zv:=aa ((b6.moves bC.moves).mv (Mv.of hA) fL);clear fL hA RO Px;go_upto_region 8 with(fail);generalize hW8:World.alloc w7 _=W8 at *;generalize XK:w7.heap.size=Bv at *;clear hW8;have v5:=cr zv.o 5 _ rfl;go_upto_region 9 with(fail);clear v5 zv;have Ug:Hid (∀j,(dB g.F9 (P.take k)++bV (v.Gf.take j)).length<=2000000):=aa fun j=>by
   have h1:=YH.o k;have h2:(bV (v.Gf.take j)).length<=(bV v.Gf).length:=by
    conv=>rhs;rw[<- rk j v.Gf]
    unfold bV;rw[xt,cD];omega
   have h3:=Qb.o;rw[cD];omega
  have RQ:Hid (bi prog 9 W8 bo (dB g.F9 (P.take k)++bV (v.Gf.take 0)).length (onF (dB g.F9 (P.take k)++bV (v.Gf.take 0)))):=aa (by rw[iv,show bV []=[] from rfl,eM];exact RP.o);clear RP;go_loopw[41] (fun i wi=>∃j:Nat,j<=v.Gf.length/\i=.int .i64 j/\cR (fun b=>b=bo) W8 wi/\bi prog 9 wi bo (dB g.F9 (P.take k)++bV (v.Gf.take j)).length (onF (dB g.F9 (P.take k)++bV (v.Gf.take j)))) (fun i _=>v.Gf.length-(intOf i).toNat)
  exact⟨0,cg _,rfl,cR.refl _ _,RQ.o⟩;clear RQ;obtain⟨j,hj,rfl,Gk,C4⟩:=hrel;have sq:=aa Gk;clear Gk;have tj:=aa C4;clear C4;by_cases hlt2:j<v.Gf.length
  ·obtain⟨s,hs⟩:=aj v.Gf j hlt2;obtain⟨b2,off2,us2,hsp,I0,C2,B5,C3,hcv2⟩:=Zv.o.elem hs;subst hsp;obtain⟨av,Oz,rfl,mC,hst2⟩:=C3;obtain⟨ap,ac,rfl,_,_⟩:=mC.cap;obtain⟨eN,eR,rfl,_,_⟩:=hst2.cap;have AD:wr.heap[b2]?=W8.heap[b2]?:=sq.o.block b2 C2 I0;obtain⟨q0,q1,q2,q3,q4,q5,q6,q7,q8,q9,q10⟩:=ak5 AD hcv2;have Wo:=aa (o9 hs);have Wp:=aa (HAN.o s (ct hs));have ab5:s.Ga.length<=1000:=by have:=A8 hs;have:=Qb.o;omega
   clear hs hcv2 B5 AD hst2;have hA:=ae wr (.cells (Tae s ap ac eN eR) 88);have lj:=aa (b9 wr (.cells (Tae s ap ac eN eR) 88));have LO:=aa (sq.o.trans (cR.of_below (F:=fun _=>False) hA) (fun _ f=>f.elim));have Nn:=aa (tj.o.block (hA.block bo tj.o.lt));have ya:=aa ((b6.moves aQ.moves).mv (Mv.mod LO.o (fun b e ho=>ho e)) mC);clear mC hA sq tj;go_upto_region 11 with(fail);clear q0 q1 q2 q3 q4 q5 q6 q7 q8 q9 q10;generalize hW9:World.alloc wr _=W9 at *;generalize XL:wr.heap.size=Bs at *;clear hW9;have s3:=cr lj.o 3 _ rfl;go_upto_region 12 with(fail);clear s3 lj;generalize Pn:dB g.F9 (P.take k)++bV (v.Gf.take j)=AL at *;have Wb:AL.length<=2000000:=by have:=Ug.o j;rw[Pn]at this;exact this
   have Wq:=aa Pn;clear Pn;have aG4:Hid (bi prog 9 W9 bo (AL++s.Ga.take 0).length (onF (AL++s.Ga.take 0))):=aa (by rw[iv,eM];exact Nn.o);clear Nn;go_loopw[48] (fun i wi=>∃m:Nat,m<=s.Ga.length/\i=.int .i64 m/\cR (fun b=>b=bo) W9 wi/\bi prog 9 wi bo (AL++s.Ga.take m).length (onF (AL++s.Ga.take m))) (fun i _=>s.Ga.length-(intOf i).toNat)
   exact⟨0,cg _,rfl,cR.refl _ _,aG4.o⟩;clear aG4;obtain⟨m,hm,rfl,Gk,C4⟩:=hrel;have sq:=aa Gk;clear Gk;have tj:=aa C4;clear C4;by_cases hlt3:m<s.Ga.length
   ·obtain⟨r,hr⟩:=aj s.Ga m hlt3;obtain⟨b3,off3,us3,hsp3,B7,PV,pT,Tr,hcv3⟩:=ya.o.elem hr;subst hsp3;obtain rfl:us3=_:=Tr;have Tl:wr.heap[b3]?=W9.heap[b3]?:=sq.o.block b3 PV B7;obtain⟨q0,q1,q2⟩:=Mn Tl hcv3;have HTS:=aa (take_snoc' s.Ga m r hr);have hns:=Wp.o r (ct hr);clear hr hcv3 pT Tl;have hA:=ae wr (.cells (Tau r) 83);have yb:=aa (b9 wr (.cells (Tau r) 83));have Ws:=aa (sq.o.trans (cR.of_below (F:=fun _=>False) hA) (fun _ f=>f.elim));have LR:=aa (tj.o.block (hA.block bo tj.o.lt));have Rn:(AL++s.Ga.take m).length<=3000000:=by rw[cD,ey];omega
    clear hA sq tj;go_upto_region 14 with(fail);clear q0 q1 q2;generalize hW10:World.alloc wr _=W10 at *;generalize NU:wr.heap.size=Ba at *;clear hW10;have a0:=cr yb.o 0 _ rfl;have a1:=cr yb.o 1 _ rfl;have hmk:=(bi.look LR.o oM underlying102 (wY W10) (key:=.string r.on) (gG r.on hns)).1;rw[Al]at hmk;have HST:∀z:Bool,z=(onB (AL++s.Ga.take m) r.on||!r.vol)->∃w',(Instr.mapUpdate 102 (.map (some bo)) (.string r.on) (.bool z)).run prog W10=.ok () w'/\bi prog 9 w' bo (AL++s.Ga.take (m+1)).length (onF (AL++s.Ga.take (m+1)))/\cR (fun b=>b=bo) W9 w':=fun z hz=>by
     obtain⟨w',hst,hm',hg',hz'⟩:=bi.store LR.o oM underlying102 TcW (key:=.string r.on) (gG r.on hns) (.bool z);refine⟨w',hst,?_,Ws.o.trans (cR.grown hg') (fun i e=>.inl e)⟩;rw[HTS.o,<- cV,cD];subst hz;exact hm'.congr fun key _ _=>DJ _ r key
    have RU:=aa HST;clear HST;generalize hon:onB (AL++s.Ga.take m) r.on=ob at *;have Vz:=aa hon;clear hon;cases ob with
    |true =>
     obtain⟨w',hst,hm',oY⟩:=RU.o true TcO;have Pg:=aa hm';clear hm';have xd:=aa oY;clear oY;go_wp2;go_roundw;exact⟨m+1,TcN,TcR,xd.o,Pg.o⟩;simp[intOf];omega
    |false =>
     obtain⟨w',hst,hm',oY⟩:=RU.o (!r.vol) TcO;have Pg:=aa hm';clear hm';have xd:=aa oY;clear oY;go_wp2;go_roundw;exact⟨m+1,TcN,TcR,xd.o,Pg.o⟩;simp[intOf];omega
   obtain rfl:m=s.Ga.length:=by omega
   rw[cI]at tj;have Py:Hid (bi prog 9 wr bo (dB g.F9 (P.take k)++bV (v.Gf.take (j+1))).length (onF (dB g.F9 (P.take k)++bV (v.Gf.take (j+1))))):=aa (by rw[Wo.o,<- cV,Wq.o];exact tj.o);have Pz:=aa (LO.o.trans sq.o (fun i e=>.inl e));clear tj sq;go_wp2;go_roundw;exact⟨j+1,TcN,TcR,Pz.o,Py.o⟩;simp[intOf];omega
  obtain rfl:j=v.Gf.length:=by omega
  rw[cI]at tj;have Py:Hid (bi prog 9 wr bo (dB g.F9 (P.take (k+1))).length (onF (dB g.F9 (P.take (k+1))))):=aa (by rw[HAS.o];exact tj.o);have Pz:=aa (Wn.o.trans sq.o (fun i e=>.inl e));clear tj sq;go_wp2;go_roundw;exact⟨k+1,TcN,TcR,Pz.o,Py.o⟩;simp[intOf];omega
 obtain rfl:k=P.length:=by omega
 rw[cI]at tj;generalize dB g.F9 P=AL at *;clear HPR HPD YH;have Wt:=aa ((b6.moves aO.moves).mv (ok':=fun b=>ok b/\b<w.heap.size) ⟨fy.o.size,fun b hb ho=>⟨⟨ho,hb⟩,fy.o.block b hb⟩⟩ HD.o);have g6:=cr Pw.o 6 _ rfl;go_upto_region 20 with(fail);clear g6;obtain⟨W11,hW11⟩:∃W,W=wr:=⟨_,rfl⟩;subst hW11;have YJ:=Pt.1;have YK:=Pt.2;clear Pt;generalize Wu:a.dp=dpx at *;generalize Wv:a.dc=dcx at *;clear Wu Wv;have RX:=fy.o.size
 go_loopw[15,70] (fun l i wi=>∃m:Nat,m<=g.Gb.length/\i=.int .i64 m/\dF wi W11.heap.size l (gD az.name (onB AL) (g.Gb.take m))/\Below W11.heap.size W11 wi) (fun _ i _=>g.Gb.length-(intOf i).toNat)
 exact⟨0,cg _,rfl,dF.nil _ _,bj _ _⟩;obtain⟨m,hm,rfl,hown,hB⟩:=hrel;have HOW:=aa hown;clear hown;have HB:=aa hB;clear hB;have hpl:=lq az.name (onB AL) (g.Gb.take m);rw[ey]at hpl;by_cases hlt4:m<g.Gb.length
 ·obtain⟨d,hd⟩:=aj g.Gb m hlt4;obtain⟨b,off,us,hsp,gR,cX,ez,eE,hcv⟩:=Wt.o.elem hd;have hns:=HZ.o.dn d (ct hd);obtain⟨tv,rfl,ew⟩:=eE;obtain⟨tp,tc,rfl,_,_⟩:=ew.cap;subst hsp;have cT:wr.heap[b]?=W11.heap[b]?:=HB.o.block b cX;obtain⟨q0,q1,q2,q3,q4,q5,q6⟩:=OD cT hcv;have sY:=aa (rJ az.name (onB AL) hd);clear hd hcv ez cT ew;have hA:=ae wr (.cells (Tah d tp tc) 39);have sX:=aa (b9 wr (.cells (Tah d tp tc) 39));have cm:=Zbl HB hA;have HOW2:=aa (HOW.o.below hA);clear hA;go_upto_region 22 with(fail);clear q0 q1 q2 q3 q4 q5 q6;generalize hW12:World.alloc wr _=W12 at *;generalize hBd:wr.heap.size=Bd at *;clear hW12 HB HOW;have d0:=cr sX.o 0 _ rfl;have RY:=cm.o.size;have hmk:=(bi.look (tj.o.block (cm.o.block bo tj.o.lt)) oM underlying102 (wY W12) (key:=.string d.name) (gG d.name hns)).1;rw[Al]at hmk;obtain⟨lp,lc,e,_,_⟩:=(HOW2.o.rd (ok:=fun _=>True) (fun _ _=>trivial)).cap;subst e;have HCT:=aa (eT (ok:=fun _=>True) _ d.name _ W12 (HOW2.o.rd (ok:=fun _=>True) (fun _ _=>trivial)) TcN);generalize Ps:gD az.name (onB AL) (g.Gb.take m)=pl at *;have RL:=aa Ps;clear Ps;cases hh:onB AL d.name with
  |false =>
   rw[hh]at hmk sY;rw[Bool.false_and,bh TcO]at sY;have HH:=aa hh;clear hh;clear HCT;go_wp2;go_roundw;exact⟨m+1,TcN,TcR,Td2,cm.o⟩;simp[intOf];omega
  |true =>
   rw[hh]at hmk sY;rw[Bool.true_and]at sY;have HH:=aa hh;clear hh;cases hc:bI pl d.name with
   |true =>
    rw[hc]at HCT sY;rw[bh TcO]at sY;have HC:=aa hc;clear hc;go_wp2_with(refine HCT.o.mono ?_;rintro e w3 ⟨rfl,rfl⟩)
    go_roundw;exact⟨m+1,TcN,TcR,Td2,cm.o⟩;simp[intOf];omega
   |false =>
    rw[hc]at HCT sY;rw[aw TcO]at sY;have HC:=aa hc;clear hc;go_wp2_with(first|(refine HCT.o.mono ?_;rintro e w3 ⟨rfl,rfl⟩)|(at_builtin;refine dz rfl _ _ rfl W11.heap.size _ pl d.name rfl ?c1 W12.heap.size 1 rfl ?c2 ?c3 ?c4 ?_))
    case c1=>exact HOW2.o.alloc _
    case c2=>exact aD rfl rfl
    case c3=>omega
    case c4=>simp;omega
    intro v' w13 hown1 hb1 _;have eI:=aa ((cm.o.alloc RY _).trans hb1);have HOW4:=aa hown1;clear hb1 hown1;go_wp2;go_roundw;exact⟨m+1,TcN,TcR,Tev,eI.o⟩;simp[intOf];omega
 obtain rfl:m=g.Gb.length:=by omega
 rw[cI]at HOW;have B3:Hid (Below w.heap.size w wr):=aa (fy.o.trans (HB.o.mono RX));go_wp2;go_ret;exact⟨_,rfl,by rw[Ns.o];exact HOW.o.mono RX,B3.o⟩
end Go.Proofs.YtillcmhjhajimaaGreatDoor
namespace Go.Proofs.YtillcmhjhajimaaGreatDoor
open Go.Proofs.Tryz
open Go.RowKit Go.Maps Go.Shelf
theorem wK:∀ {l:List (ByteArray × Int)},(oW l).2=0->∀x∈l,x.2=0
 |[],_,x,hx=>by cases hx
 |r :: l,h,x,hx=>by
  unfold oW at h;split at h
  ·rename_i hr;rcases List.mem_cons.1 hx with rfl|hx
   ·exact hr
   exact wK h x hx
  rename_i hr;exact absurd h hr
variable {g:af}
theorem Dg(h:(mchk g).2=0):(dZ g).2=0/\(dw g).2=0/\(dJ g).2=0/\(iP g).2=0/\(mY g).2=0/\(qG g).2=0/\(pE g).2=0/\(rY g).2=0:=by
 have:=wK h;exact⟨this _ TcO,this _ TcO,this _ TcO,this _ TcO,this _ TcO,this _ TcO,this _ TcO,this _ TcO⟩
theorem Au{l:List ByteArray}(h:eP l=0):l.length<=8:=by
 unfold eP at h;split at h
 ·cases h
 omega
theorem zy(h:(dw g).2=0):∀d∈g.Gb,d.tags.length<=8:=fun d hd=>by
 obtain⟨j,hj⟩:=fc hd;have:=ll (i:=0) h j d hj;rw[eJ]at this;unfold pg at this;split at this
 ·cases this
 split at this
 ·cases this
 split at this
 ·cases this
 exact Au this
theorem qQ{ext:Int}{s:aB}{st:Int}(h:bJ ext s st=true):fP s->∀a∈s.Ga,a.vol=false:=by
 intro ho a ha;cases hs:shapeOf s.kind with
 |none=>rw[jT hs]at h;cases h
 |some x =>
  have hx:x.F9=false:=by
   rcases ho with q|q|q<;>(rw[q]at hs;cases hs;rfl)
  rw[jP hs]at h;simp only[eh,fk]at h;have h5:=h.1.1.1.1.1.1.1.1.1.2;have:=List.all_eq_true.1 h5 a ha;unfold bT at this;rw[hx]at this;simp only[eh]at this;simpa using this.1
theorem lY{α β:Type}(f:α->List β)(m:Nat):∀l:List α,(∀x∈l,(f x).length<=m)->(l.flatMap f).length<=l.length*m
 |[],_=>by simp
 |x :: l,h=>by
  have h1:=h x (cG ..);have h2:=lY f m l fun y hy=>h y (kn _ hy);rw[lB,cD,cS,Oy];omega
theorem Cb(s:aB):(rQ s).length<=s.Ga.length+2:=by
 unfold rQ;rw[cD,cD,fW];have:=tk (fun a:aR=>a.vol) s.Ga;split<;>split<;>simp<;>omega
theorem rP:∀ {l:List az} {i:Nat} {D:az},(l.map (·.name)).Nodup->l[i]?=some D->bH l D.name=some D
 |[],_,_,_,h=>by cases h
 |x :: l,i,D,hn,h=>by
  rw[iu,List.nodup_cons]at hn;unfold bH;rw[List.find?_cons]
  match i,h with
  |0,h =>
   obtain rfl:x=D:=by simpa using h
   simp
  |i+1,h =>
   have h':l[i]?=some D:=by simpa using h
   have:¬x.name=D.name:=fun e=>hn.1 (e ▸ List.mem_map.2 ⟨D,ct h',rfl⟩);rw[cN this];exact rP hn.2 h'
structure E9(g:af):Prop where
 nd:rT g
 dl:g.Gb.length<=8
 dt:∀d∈g.Gb,d.tags.length<=8
 de:∀d∈g.Gb,0<=d.Gc/\d.Gc<=4096
 df:∀(i:Nat) (D:az),g.Gb[i]?=some D->bH g.Gb D.name=some D
 vl:g.F9.length<=32
 tm:qx g.F9
 ps:∀p∈pieces g.F9,0<=p.start/\p.start<=4096
 pn:(pieces g.F9).length<=12288
 a6:∀v∈g.F9,∀s∈v.Gf,s.Ga.length<=6
theorem Fb(hi:NL g)(h:(mchk g).2=0):E9 g:=by
 obtain⟨h1,h2,h3,h4,h5,-,-,-⟩:=Dg h;obtain⟨r1,r2⟩:=iT h1;have hs:=mZ h4;have hv:=nH h3;have hd:=nG h2;have vu:∀d∈g.Gb,0<=d.Gc/\d.Gc<=4096:=fun d hd'=>by
  have:=(hd.2 d hd').1;unfold jQ at this;omega
 have yq:∀v∈g.F9,∀s∈v.Gf,s.Ga.length<=6:=fun v hv' s hs'=>(hs v hv' s hs').fm.ar
 have hpc:∀v∈g.F9,(aW v).length<=384:=fun v hv'=>by
  have h0:=(hv v hv').2.2.2;have h6:=lY (aK v.name) 6 v.Gf fun s hs'=>by
   have:=yq v hv' s hs';unfold aK;split
   ·rw[fW];exact this
   simp
  have:v.Gf.length*6<=64*6:=tA _ h0;unfold aW;omega
 refine⟨⟨⟨hi.sz,fun v hv'=>by have:=(hv v hv').2.1;unfold maxLen;omega,fun v hv'=>?_,fun v hv' x hx=>?_,by have:=r2.2.1;omega⟩,fun d hd'=>?_,by have:=r2.1;omega,fun v hv'=>?_,fun v hv' s hs' a ha=>?_⟩,r2.1,zy h2,vu,fun i D hD=>rP hd.1 hD,r2.2.1,fun v hv'=>⟨by have:=(hv v hv').2.2.2;omega,fun s hs'=>?_⟩,fun p hp=>?_,?_,yq⟩
 ·have h0:=(hv v hv').2.2.2;have h6:=lY rQ 8 v.Gf fun s hs'=>by have:=yq v hv' s hs';have:=Cb s;omega
  have:v.Gf.length*8<=64*8:=tA _ h0;unfold kY;omega
 ·obtain⟨s,hs',hx⟩:=List.mem_flatMap.1 hx;obtain⟨m1,m2,m3,m4⟩:=hi.st v hv' s hs';unfold maxLen;unfold rQ at hx;rcases List.mem_append.1 hx with hx|hx
  ·rcases List.mem_append.1 hx with hx|hx
   ·obtain⟨a,ha,rfl⟩:=List.mem_map.1 hx;exact m3 a ((List.mem_filter.1 ha).1)
   split at hx
   ·cases hx
   obtain rfl:=List.mem_singleton.1 hx;exact m1
  split at hx
  ·cases hx
  obtain rfl:=List.mem_singleton.1 hx;exact m2
 ·have:=oo ((hd.2 d hd').2);unfold maxLen;omega
 ·have h0:=(hv v hv').2.2.2;have h6:=lY (fun s:aB=>s.Ga) 6 v.Gf fun s hs'=>yq v hv' s hs';have:v.Gf.length*6<=64*6:=tA _ h0;unfold bV;omega
 ·unfold maxLen;exact(hi.st v hv' s hs').2.2.1 a ha
 ·have hf:=(hs v hv' s hs').fm;have a1:=hf.l0;have a2:=hf.l1;have a3:=hf.ar;obtain⟨st,hst⟩:=qP h4 v hv' s hs';exact⟨TcN,TcN,qQ hst⟩
 ·obtain⟨v,hv',hp⟩:=List.mem_flatMap.1 hp;obtain⟨s,hs',hp⟩:=List.mem_flatMap.1 hp;obtain⟨st,hst⟩:=qP h4 v hv' s hs';have hr:=zZ (Dh h5 v hv' s hs');unfold aK at hp;split at hp
  ·rename_i ho;obtain⟨a,ha,rfl⟩:=List.mem_map.1 hp;have pS:=qQ hst ho a ha;have e2:=List.all_eq_true.1 hr.2.1 a ha;unfold fI at e2;have e1:=hr.1;unfold jw at e1;rw[eh,eL]at e1;have e3:=e1.1 a ha;rw[pS,nj]at e2 e3;obtain⟨d,hd'⟩:=Option.isSome_iff_exists.1 e3;rw[hd']at e2;simp only[eh,fk,Option.getD_some]at e2;have:=vu d (eV hd');simp only[aJ];omega
  cases hp
 have h6:=lY aW 384 g.F9 hpc;have:=r2.2.1;have:g.F9.length*384<=32*384:=tA _ TcN;unfold pieces;omega
end Go.Proofs.YtillcmhjhajimaaGreatDoor
namespace Go.Proofs.YtillcmhjhajimaaGreatDoor
open Go.Proofs.Tryz
open Go.RowKit
variable {Gb:List az}{a b ls lengths next' n0:List Int}{ps:List (ByteArray × Int × Int)}{n s id c e kind:Int}{name nm:ByteArray}{hd:Bool}{l:List aB}{ns:List ByteArray}{vl tl vs L L':List ay}{k j i:Nat}{x:aB}{g g' g0:af}{v:ay}
theorem iq:es.size<=100:=by decide
structure XX(s:aB):Prop where
 ar:s.Ga.length<=8
 st:s.stale.length<=8
 kd:0<=s.kind/\s.kind<=10
 lg:s.log.size<=100
 pl:s.pool.size<=100
 on:∀a∈s.Ga,a.on.size<=100
 dv:0<=s.device/\s.device<=10
structure QC(v:ay):Prop where
 nm:v.name.size<=100
 tg:List.Sublist v.tags iQ
 sl:v.Gf.length<=8
 sg:∀s∈v.Gf,XX s
theorem fZ.on(h:fZ Gb a ps b):∀q∈ps,∃D∈Gb,q.1=D.name:=by
 induction h with
 |nil=>intro q hq;cases hq
 |snoc h hd hm h1 h2 h3 ih =>
  intro q hq;rcases List.mem_append.1 hq with q1|q1
  ·exact ih q q1
  obtain rfl:=List.mem_singleton.1 q1;exact⟨_,ct hd,rfl⟩
theorem Eo{on:ByteArray}(h:on.size<=100):XX (dE n on s) :=
 ⟨TdG,TdG,TdM,iq,iq,fun a ha=>by
  obtain rfl:a=⟨false,on,s⟩:=by simpa[dE]using ha
  exact h,TdM⟩
theorem Ed{on:ByteArray}(hn:name.size<=100)(h:on.size<=100):QC (eD name id hd n on s) :=
 ⟨hn,List.nil_sublist _,by simp[eD],fun x hx=>by
  obtain rfl:x=dE n on s:=by simpa[eD]using hx
  exact Eo h⟩
structure FB(s:aB):Prop where
 ar:s.Ga.length<=8
 st:s.stale=[]
 kd:0<=s.kind/\s.kind<=10
 lg:s.log=es
 pl:s.pool=es
 dv:s.device=0
 on:(s.kind=1\/s.kind=8)\/s.Ga=[]
theorem fB.pre{l':List aB}(h:fB l l')(hl:∀s∈l,FB s):∀s∈l',FB s:=by
 induction h with
 |nil=>exact hl
 |void _ hn hk ih =>
  intro s hs;rcases List.mem_append.1 hs with q|q
  ·exact ih s q
  obtain rfl:=List.mem_singleton.1 q;exact⟨Tc7,rfl,Tdf,rfl,rfl,rfl,.inr rfl⟩
 |lin _ hn ih =>
  intro s hs;rcases List.mem_append.1 hs with q|q
  ·exact ih s q
  obtain rfl:=List.mem_singleton.1 q;exact⟨Tc7,rfl,Tdf,rfl,rfl,rfl,.inl (.inl rfl)⟩
 |move _ hn _ ih =>
  intro s hs;rcases List.mem_append.1 hs with q|q
  ·exact ih s q
  obtain rfl:=List.mem_singleton.1 q;exact⟨Tc7,rfl,Tdf,rfl,rfl,rfl,.inl (.inr rfl)⟩
theorem lD.vin(h:lD id c ns ls ps vl)(hn:∀n∈ns,n.size<=100)(hp:∀q∈ps,q.1.size<=100):∀v∈vl,QC v:=by
 induction h with
 |nil=>intro v hv;cases hv
 |snoc h ih =>
  intro v hv;rcases List.mem_append.1 hv with q|q
  ·exact ih (fun n hn'=>hn n (ju _ hn')) (fun n hn'=>hp n (ju _ hn')) v q
  obtain rfl:=List.mem_singleton.1 q;exact Ed (hn _ (P9 _ (List.mem_singleton.2 rfl))) (hp _ (P9 _ (List.mem_singleton.2 rfl)))
theorem iO.vin(h:iO id name k c j tl)(hn:name.size<=90)(hk:k<=2):∀v∈tl,QC v:=by
 induction h with
 |nil=>intro v hv;cases hv
 |snoc h hl ih =>
  intro v hv;rcases List.mem_append.1 hv with q|q
  ·exact ih v q
  obtain rfl:=List.mem_singleton.1 q;have:=h.len;refine⟨?_,List.nil_sublist _,by simp[jY],fun s hs=>?_⟩
  ·show((name++tT)++digit _).size<=100;rw[CA,CA];have e1:tT.size=1:=rfl;have e2:∀i,(digit i).size=1:=fun _=>rfl;rw[e2];omega
  obtain rfl:=List.mem_singleton.1 hs;exact⟨TcO,TcO,TcU,iq,TcU,fun a ha=>by simp at ha,TcU⟩
theorem BM(name:ByteArray)(i:Nat):(Ex name i).size=name.size+5:=by
 unfold Ex;rw[CA,CA];rfl
theorem gN :∀n∈aI name k,n.size<=name.size+5:=fun n hn=>by
 obtain⟨i,_,rfl⟩:=List.mem_map.1 hn;rw[BM];omega
theorem vN{l:List ByteArray}{m:Nat}(h:∀n∈l,n.size<=m):∀a∈gB l,a.on.size<=m:=fun a ha=>by
 obtain⟨n,hn,rfl⟩:=List.mem_map.1 ha;exact h n hn
theorem mX(name s:ByteArray)(h:s.size<=5):(name++s).size<=name.size+5:=by
 rw[CA];omega
theorem ik.names{names:List ByteArray}(h:ik e n name kind names lengths x):∀m∈names,m.size<=name.size+5:=by
 cases h with
 |mirror k hk c hc st hst=>exact gN
 |mirrorLog k hk c hc st hst =>
  intro m hm;rcases List.mem_append.1 hm with q|q
  ·exact gN m q
  obtain rfl:=List.mem_singleton.1 q;exact mX _ _ TcQ
 |parity k hk c hc=>exact gN
 |pool l c hl hc =>
  intro m hm;simp only[dr,cY,dg]at hm;rcases hm with rfl|rfl<;>exact mX _ _ TcQ
 |cache l m c hl hm hc =>
  intro m hm;simp only[dr,cY,dg]at hm;rcases hm with rfl|rfl|rfl<;>exact mX _ _ TcQ
theorem ik.sin{names:List ByteArray}(h:ik e n name kind names lengths x)(hn:name.size<=90):XX x:=by
 have hm:=h.names;have hst:∀ {st:List Int} {k:Nat},(st=[]\/∃i:Int,0<=i/\i<k/\st=[i])->st.length<=8:=fun h=>by
  rcases h with rfl|⟨_,_,_,rfl⟩<;>simp
 have hl:∀k:Nat,∀a∈gB (aI name k),a.on.size<=100:=fun k=>vN fun n hn'=>by have:=gN n hn';omega
 cases h with
 |mirror k hk c hc st hs=>exact⟨Tdg,hst hs,TcU,iq,iq,hl k,TcU⟩
 |mirrorLog k hk c hc st hs =>
  have:=mX name qm TcQ;exact⟨Tdg,hst hs,TcU,TcU,iq,hl k,TcU⟩
 |parity k hk c hc=>exact⟨Tdg,TcO,TcU,iq,iq,hl k,TcU⟩
 |pool l c hl hc=>exact⟨by simp[gB],TcO,TcU,iq,iq,vN fun n hn'=>by have:=hm n hn';omega,TcU⟩
 |cache l m c hl hm' hc=>exact⟨by simp[gB],TcO,TcU,iq,iq,vN fun n hn'=>by have:=hm n hn';omega,TcU⟩
theorem iy.vin{next:List Int}(h:iy name g next g' next')(hn:name.size<=10)(hd:∀D∈g.Gb,D.name.size<=100)(hv:∀v∈g.F9,QC v):∀v∈g'.F9,QC v:=by
 cases h with
 |linF=>exact hv
 |@lin n s on next1 next' Gf ps hn' h1 hm hl h2 hs =>
  intro v hv';rcases List.mem_append.1 hv' with q|q
  ·exact hv v q
  obtain rfl:=List.mem_singleton.1 q;obtain⟨r,e,hr⟩:=hm.tail;have hp:=hm.pre fun s hs=>by
   obtain rfl:=List.mem_singleton.1 hs;exact⟨TdG,rfl,TdM,rfl,rfl,rfl,.inl (.inl rfl)⟩
  subst e;refine⟨TcU,List.nil_sublist _,TcU,fun x hx=>?_⟩;obtain⟨p1,p2,p3,p4,p5,p6,p7⟩:=hp x hx;refine⟨p1,by rw[p2];simp,p3,by rw[p4];exact iq,by rw[p5];exact iq,fun a ha=>?_,by rw[p6];omega⟩;rcases List.mem_append.1 hx with hx|hx
  ·obtain rfl:=List.mem_singleton.1 hx;obtain rfl:=List.mem_singleton.1 ha;obtain⟨D,hD,e⟩:=h1.on _ (List.mem_singleton.2 rfl);show on.size<=100;rw[show on=D.name from e];exact hd D hD
  rcases p7 with hk|hk
  ·have:(a.on,a.start,x.length)∈ps:=hs.subset (List.mem_flatMap.2 ⟨x,TdO,by
    unfold iG;rw[aw hk];exact List.mem_map.2 ⟨a,ha,rfl⟩⟩)
   obtain⟨D,hD,e⟩:=h2.on _ this;rw[show a.on=D.name from e];exact hd D hD
  rw[hk]at ha
  cases ha
 |strF h=>exact hv
 |@str k n al next' hk hn' hl ha h =>
  intro v hv';rcases List.mem_append.1 hv' with q|q
  ·exact hv v q
  obtain rfl:=List.mem_singleton.1 q;refine⟨by simp only[mf];omega,List.nil_sublist _,by simp[mf],fun s hs=>?_⟩;obtain rfl:=List.mem_singleton.1 hs;refine⟨Td4,by simp[ic],Td4,iq,iq,fun a ha'=>?_,Td4⟩;obtain⟨D,hD,e⟩:=h.on (a.on,a.start,n) (List.mem_map.2 ⟨a,by simpa[ic]using ha',rfl⟩);rw[show a.on=D.name from e];exact hd D hD
 |compF h=>exact hv
 |comp AK hn' hR hH hT ht hk hk5 hth =>
  intro v hv';rcases List.mem_append.1 hv' with q|q
  ·rcases List.mem_append.1 q with q|q
   ·rcases List.mem_append.1 q with q|q
    ·exact hv v q
    exact hH.vin (fun m hm=>by have:=hR.names m hm;omega) (fun q hq=>by
     obtain⟨D,hD,e⟩:=hT.on q hq;rw[e];exact hd D hD) v q
   obtain rfl:=List.mem_singleton.1 q;exact⟨TcU,ht,TcO,fun s hs=>by obtain rfl:=List.mem_singleton.1 hs;exact hR.sin TcN⟩
  exact hth.vin TcN hk v q
theorem bZ.vin{c:Nat}(h0:g0.F9=[]/\g0.next=0)(he:1<=g0.Gd/\g0.Gd<=16)(hd:DOk g0.Gb n0)(Pc:∀D∈g0.Gb,D.name.size<=100){next:List Int}(h:bZ c g0 n0 i g next):∀v∈g.F9,QC v:=by
 induction h with
 |nil=>rw[h0.1];intro v hv;cases hv
 |@step i g g' next next' h hs ih =>
  have b:=bZ.bd h0 he hd h;exact hs.vin (by show 1<=10;omega) (by rw[b.same.2.2.2.2.2.1];exact Pc) ih
theorem pX{l:List ByteArray}(h:List.Sublist l iQ):TI l:=⟨by have:=h.length_le;have e:iQ.length=4:=rfl;omega,fun s hs=>by
 have:=h.subset hs;simp only[iQ,dr,cY,dg]at this;rcases this with rfl|rfl|rfl|rfl<;>decide⟩
theorem xq{k:Int}(h:0<=k/\k<=10):(Lit.int .i64 k).wf=true:=by
 rcases(show k=0\/k=1\/k=2\/k=3\/k=4\/k=5\/k=6\/k=7\/k=8\/k=9\/k=10 by omega)with rfl|rfl|rfl|rfl|rfl|rfl|rfl|rfl|rfl|rfl|rfl<;>rfl
theorem sU.gin(h:sU g):NL g:=by
 obtain⟨c,g0,g1,next,hc,hname,_,_,ah9,hn0,S9,hv0,_,CD,hdk,ye,hg,hh1,Zj⟩:=h.ex;have hex:1<=g0.Gd/\g0.Gd<=16:=by
  simp only[dr,cY,dg]at ah9;omega
 have vu:∀D∈g0.Gb,0<=D.Gc/\D.Gc<=60:=fun D hD=>by
  exact Tcl
 have Pc:∀D∈g0.Gb,D.name.size<=100:=fun D hD=>by
  obtain⟨k,hk⟩:=fc hD;rw[(hdk k D hk).name,CA];have e1:NI.size=2:=rfl;have e2:(digit k).size=1:=rfl;omega
 have ND:DOk g0.Gb (List.replicate g0.Gb.length 0):=⟨TcO,TcN,TcN,fun D hD=>by have:=vu D hD;omega,fun d m hm=>by
  have:=ct hm;rw[tM]at this;omega⟩
 have b:=bZ.bd ⟨hv0,hn0⟩ hex ND ye;have vi:=bZ.vin ⟨hv0,hn0⟩ hex ND Pc ye;have ed:g.Gb=g0.Gb:=by rw[hg];exact b.same.2.2.2.2.2.1
 have ev:g.F9=g1.F9:=by rw[hg]
 have en:g.name=vgT:=by rw[hg];exact b.same.1.trans hname
 have et:g.tags=g0.tags:=by rw[hg];exact b.same.2.2.2.2.1
 have mb:=b.F9;have S8:g1.F9.length<=44:=by omega
 have Zn:∀d∈g.Gb,TI d.tags:=fun d hd=>by
  rw[ed]at hd;obtain⟨k,hk⟩:=fc hd;exact pX (hdk k d hk).tags
 refine⟨⟨by rw[en];decide,by rw[et];exact pX S9,by rw[ed];omega,by rw[ev];omega,TcN,fun d hd=>⟨by rw[ed]at hd;have:=Pc d hd;omega,Zn d hd⟩,fun v hv=>?_,fun x hx=>?_⟩,⟨by rw[ed];omega,fun d hd=>(Zn d hd).1,by rw[ev];omega,fun v hv=>?_⟩,fun v hv s hs=>?_,fun v hv s hs=>?_⟩
 ·rw[ev]at hv;have q:=vi v hv;exact⟨by have:=q.nm;omega,pX q.tg⟩
 ·obtain⟨i,_,_,rfl⟩:=Zj x hx;show BQ.size<=_;decide
 ·rw[ev]at hv;have q:=vi v hv;exact⟨(pX q.tg).1,by have:=q.sl;omega,fun s hs=>⟨by have:=(q.sg s hs).ar;omega,by have:=(q.sg s hs).st;omega⟩⟩
 ·rw[ev]at hv;exact xq ((vi v hv).sg s hs).kd
 rw[ev]at hv;have q:=(vi v hv).sg s hs;exact⟨by have:=q.lg;omega,by have:=q.pl;omega,fun a ha=>by have:=q.on a ha;omega,xq q.dv⟩
theorem vC{ext:Int}{ps:List gy}{q:Int × Int}:q∈fM nm ext ps↔∃x∈ps,(x.disk=nm/\0<=x.start/\x.start<ext/\0<x.len)/\q=(x.start,min x.len (ext-x.start)):=by
 unfold fM;rw[List.mem_filterMap];constructor
 ·rintro⟨x,hx,h⟩;by_cases c:x.disk=nm/\0<=x.start/\x.start<ext/\0<x.len
  ·rw[aw c]at h;injection h with h;exact⟨x,hx,c,h.symm⟩
  rw[bh c]at h
  cases h
 rintro⟨x,hx,c,rfl⟩;exact⟨x,hx,aw c⟩
def af7(p:gy):ByteArray × Int × Int:=(p.disk,p.start,p.len)
def triples(vs:List ay):List (ByteArray × Int × Int):=(pieces vs).map af7
theorem Pi(a b:List ay):triples (a++b)=triples a++triples b:=by simp[triples,pieces,xt]
theorem af2(v:ay):triples [v]=v.Gf.flatMap fun s=>(aK v.name s).map af7:=by
 simp only[triples,pieces,lB,List.flatMap_nil,eM,aW,List.map_flatMap]
theorem af0{s:aB}(h:¬fP s):(aK name s).map af7=[]:=by
 unfold aK;rw[bh h];rfl
theorem ag6{s:aB}(h:fP s):(aK name s).map af7=s.Ga.map fun a=>(a.on,a.start,iB s.kind s.length s.Ga.length):=by
 unfold aK;rw[aw h,List.map_map];rfl
theorem af3{s:aB}(h:s.kind≠2):(aK name s).map af7=iG s:=by
 unfold iG;by_cases c:s.kind=1\/s.kind=8
 ·rw[ag6 (c.elim (fun q=>.inl q) fun q=>.inr (.inr q)),aw c];have:iB s.kind s.length s.Ga.length=s.length:=by
   unfold iB;rw[bh fun q=>h q.1]
  rw[this]
 rw[af0 (fun q=>q.elim (fun q=>c (.inl q)) fun q=>q.elim h fun q=>c (.inr q)),bh c]
theorem ah4(h:∀v∈vs,∀s∈v.Gf,¬fP s):triples vs=[]:=by
 refine List.eq_nil_iff_forall_not_mem.2 fun t ht=>?_;obtain⟨p,hp,rfl⟩:=List.mem_map.1 ht;obtain⟨v,hv,hp⟩:=List.mem_flatMap.1 hp;obtain⟨s,hs,hp⟩:=List.mem_flatMap.1 hp;exact h v hv s hs (gK hp).1
theorem lD.triples(h:lD id c ns ls ps vl):triples vl=ps:=by
 induction h with
 |nil=>rfl
 |snoc h ih =>
  rw[Pi,ih,af2];simp only[eD,lB,List.flatMap_nil,eM];rw[af3 TdG];simp[iG,dE]
theorem iO.off(h:iO id name k c j tl):∀v∈tl,∀s∈v.Gf,¬fP s:=by
 induction h with
 |nil=>intro v hv;cases hv
 |snoc h hl ih =>
  intro v hv s hs;rcases List.mem_append.1 hv with q|q
  ·exact ih v q s hs
  obtain rfl:=List.mem_singleton.1 q;obtain rfl:=List.mem_singleton.1 hs;rintro(q|q|q)<;>simp at q
theorem ik.off{names:List ByteArray}(h:ik e n name kind names lengths x):¬fP x:=by
 cases h<;>(rintro(q|q|q)<;>simp at q)
theorem iy.took{next:List Int}(h:iy name g next g' next'):∃ps vl,fZ g.Gb next ps next'/\g'.F9=g.F9++vl/\(triples vl).Sublist ps:=by
 cases h with
 |linF=>exact⟨[],[],.nil _,TcO,List.Sublist.refl _⟩
 |@lin n s on next1 next' Gf ps hn h1 hm hl h2 hs =>
  refine⟨_,_,h1.trans h2,rfl,?_⟩;obtain⟨r,rfl,hr⟩:=hm.tail;rw[af2];simp only[xt,lB,List.flatMap_nil,eM];have e1:(aK name (dE n on s)).map af7=[(on,s,n)]:=by
   rw[af3 TdG];simp[iG,dE]
  rw[e1];refine List.Sublist.append (List.Sublist.refl _) (List.Sublist.trans ?_ hs);have e2:∀l:List aB,(∀x∈l,x.kind≠2)->l.flatMap (fun s=>(aK name s).map af7)=l.flatMap iG:=by
   intro l hl;induction l with
   |nil=>rfl
   |cons x l ih=>rw[lB,lB,af3 (hl x (cG ..)),ih fun y hy=>hl y (kn _ hy)]
  rw[e2 r fun x hx=>(hr x hx).1];simp
 |strF h=>exact⟨_,[],h,TcO,by simp[triples,pieces]⟩
 |@str k n al next' hk hn hl ha h =>
  refine⟨_,_,h,rfl,?_⟩;rw[af2];simp only[mf,lB,List.flatMap_nil,eM];rw[ag6 (.inr (.inl rfl))];have:iB (ic k n al).kind (ic k n al).length (ic k n al).Ga.length=n:=by
   show(if(2:Int)=2/\0<al.length then k*n/(al.length:Int) else k*n)=n;rw[aw ⟨rfl,TcN⟩,hl,Int.mul_ediv_cancel_left _ TcN]
  rw[this];exact List.Sublist.refl _
 |compF h=>exact⟨[],[],.nil _,TcO,List.Sublist.refl _⟩
 |@comp kind n names lengths x ps vl tl ro tags k j next' AK hn hR hH hT ht hk hk5 hth =>
  refine⟨ps,vl++[⟨name,oX g.id (g.next+names.length+1),false,ro,tags,[x]⟩]++tl,hT,TcO,?_⟩;rw[Pi,Pi,hH.triples,ah4 hth.off,ah4 (vs:=[_]) (fun v hv s hs=>by
   obtain rfl:=List.mem_singleton.1 hv;obtain rfl:=List.mem_singleton.1 hs;exact hR.off)]
  simp
theorem bZ.took{c:Nat}(h0:g0.F9=[]){next:List Int}(h:bZ c g0 n0 i g next):g.Gb=g0.Gb/\∃ps,fZ g0.Gb n0 ps next/\(triples g.F9).Sublist ps:=by
 induction h with
 |nil=>exact⟨rfl,[],.nil _,by rw[h0];exact List.Sublist.refl _⟩
 |@step i g g' next next' h hs ih =>
  obtain⟨e,ps,h1,h2⟩:=ih;obtain⟨qs,vl,h3,h4,h5⟩:=hs.took;refine⟨?_,ps++qs,h1.trans (e ▸ h3),?_⟩
  ·rw[<- e]
   cases hs<;>rfl
  rw[h4,Pi];exact h2.append h5
structure Apart(Gb:List az)(ps:List (ByteArray × Int × Int)):Prop where
 on:∀q∈ps,∃D∈Gb,D.name=q.1/\0<=q.2.1/\1<=q.2.2/\q.2.1+q.2.2<=D.Gc
 row:ps.Pairwise fun p q=>p.1=q.1->p.2.1+p.2.2<=q.2.1
theorem Apart.sub{qs:List (ByteArray × Int × Int)}(h:Apart Gb ps)(hs:qs.Sublist ps):Apart Gb qs:=⟨fun q hq=>h.on q (hs.subset hq),h.row.sublist hs⟩
theorem fZ.apart(h:fZ Gb a ps b)(hn:∀(i j:Nat) (D E:az),Gb[i]?=some D->Gb[j]?=some E->D.name=E.name->i=j)(ha:∀m∈a,0<=m) :
  Apart Gb ps/\(∀m∈b,0<=m)/\∀q∈ps,∀(d:Nat) (D:az) (m:Int),Gb[d]?=some D->D.name=q.1->b[d]?=some m->q.2.1+q.2.2<=m:=by
 induction h with
 |nil=>exact⟨⟨fun q hq=>by(cases hq),List.Pairwise.nil⟩,ha,fun q hq=>by(cases hq)⟩
 |@snoc next1 ps d D m s n h hd hm h1 h2 h3 ih =>
  obtain⟨i1,i2,i3⟩:=ih;have hm0:=i2 m (ct hm);refine⟨⟨fun q hq=>?_,?_⟩,fun x hx=>?_,fun q hq d' D' m' hd' e' hm'=>?_⟩
  ·rcases List.mem_append.1 hq with q1|q1
   ·exact i1.on q q1
   obtain rfl:=List.mem_singleton.1 q1;exact⟨D,ct hd,rfl,TcU,h3,h2⟩
  ·rw[tP];refine⟨i1.row,List.pairwise_singleton ..,fun p hp q hq e=>?_⟩;obtain rfl:=List.mem_singleton.1 hq;have:=i3 p hp d D m hd e.symm hm;dsimp only;omega
  ·rcases List.mem_or_eq_of_mem_set hx with q|rfl
   ·exact i2 x q
   omega
  by_cases c:d=d'
  ·subst c;rw[hd]at hd';injection hd' with hd';subst hd';rw[List.getElem?_set_self (List.getElem?_eq_some_iff.1 hm).1]at hm';injection hm' with hm';rcases List.mem_append.1 hq with q1|q1
   ·have:=i3 q q1 d D m hd e' hm;omega
   obtain rfl:=List.mem_singleton.1 q1;dsimp only;omega
  rw[List.getElem?_set_ne c]at hm';rcases List.mem_append.1 hq with q1|q1
  ·exact i3 q q1 d' D' m' hd' e' hm'
  obtain rfl:=List.mem_singleton.1 q1;exact absurd (hn d d' D D' hd hd' e'.symm) c
theorem sU.apart(h:sU g):Apart g.Gb (triples g.F9)/\∀(i j:Nat) (D E:az),g.Gb[i]?=some D->g.Gb[j]?=some E->D.name=E.name->i=j:=by
 obtain⟨c,g0,g1,next,hc,_,_,_,ah9,hn0,_,hv0,_,CD,hdk,ye,hg,_,_⟩:=h.ex;have pD:∀(i j:Nat) (D E:az),g0.Gb[i]?=some D->g0.Gb[j]?=some E->D.name=E.name->i=j:=fun i j D E hi hj e=>by
  have h1:=(List.getElem?_eq_some_iff.1 hi).1;have h2:=(List.getElem?_eq_some_iff.1 hj).1;rw[(hdk i D hi).name,(hdk j E hj).name]at e;exact Fq TcN TcN e
 obtain⟨ed,ps,h1,h2⟩:=ye.took hv0;have ha:=(h1.apart pD (fun m hm=>by rw[tM]at hm;omega)).1;have ed':g.Gb=g0.Gb:=by rw[hg];exact ed
 have ev:g.F9=g1.F9:=by rw[hg]
 rw[ed',ev];exact⟨ha.sub h2,pD⟩
def LK(L:List ay)(nm:ByteArray)(l:Int):Prop:=∃u∈L,u.name=nm/\eZ u=1/\C8 u=l
structure af6(s:aB):Prop where
 hk:fP s\/s.kind=9\/s.kind=10
 ha:∀a∈s.Ga,a.vol=false
 h0:¬fP s->s.Ga=[]
 hl:s.log=es
inductive ah0 (ext:Int)(L:List ay)(v:ay)(s:aB):Prop
 |plain (h:af6 s):ah0 ext L v s
 |thin (hk:s.kind=6) (ha:s.Ga=[]) (hl:s.log=es) (hv:v.Gf=[s]) (j:Nat) (hd:s.device=j) (hn:v.name=(s.pool++tT)++digit j) (hp:∃u∈L,u.name=s.pool/\eZ u=5):ah0 ext L v s
 |comp {kind n:Int} {names:List ByteArray} {lengths:List Int} (hk:kind=3\/kind=4\/kind=5\/kind=7) (hR:ik ext n v.name kind names lengths s) (hn:1<=n/\n<=3) (i:Nat) (hi:1<=i/\i<=4) (UL:v.name=letter i)
   (lk:∀(j:Nat) (nm:ByteArray) (l:Int),names[j]?=some nm->lengths[j]?=some l->LK L nm l):ah0 ext L v s
theorem LK.mono(hs:∀u∈L,u∈L'){l:Int}(h:LK L nm l):LK L' nm l:=by
 obtain⟨u,hu,r⟩:=h;exact⟨u,hs u hu,r⟩
theorem ah0.mono{ext:Int}(hs:∀u∈L,u∈L'){s:aB}(h:ah0 ext L v s):ah0 ext L' v s:=by
 cases h with
 |plain h=>exact .plain h
 |thin hk ha hl hv j hd hn hp =>
  obtain⟨u,hu,r⟩:=hp;exact .thin hk ha hl hv j hd hn ⟨u,hs u hu,r⟩
 |comp hk hR hn i hi UL lk=>exact .comp hk hR hn i hi UL fun j nm l a b=>(lk j nm l a b).mono hs
structure ak6(ext:Int)(L:List ay)(v:ay):Prop where
 nm:nE v=true
 tg:eP v.tags=0
 sl:1<=v.Gf.length/\v.Gf.length<=64
 fm:qV ext v.Gf.length v.Gf 0=0
 sg:∀s∈v.Gf,ah0 ext L v s
 hk:v.hidden=true->eZ v=1
def ag5(L:List ay):List ByteArray:=(L.filter (·.hidden)).map (·.name)
structure Blk(ext id lo hi:Int)(i:Nat)(new:List ay):Prop where
 len:new.length<=8
 nd:(new.map (·.name)).Nodup
 hd:∀v∈new,v.name.data.toList.head?=(letter i).data.toList.head?
 ids:∃ms:List Int,new.map (·.id)=ms.map (oX id)/\ms.Pairwise (·<·)/\∀m∈ms,lo<m/\m<=hi
 vgo:∀v∈new,ak6 ext new v
 us:dA (aA new) false=ag5 new
def KG(c:ByteArray):List (Int × List ByteArray × ByteArray) :=
 [(3,aI c 2,es),(3,aI c 3,es),(3,aI c 2,c++qm),(3,aI c 3,c++qm),(4,aI c 3,es),(4,aI c 4,es),(5,[c++Ab,c++Aj],es),(7,[c++EO,c++Aj,c++Ab],es)]
def UV(q:Int × List ByteArray × ByteArray):List ByteArray:=q.2.1++if q.2.2.toList.isEmpty then [] else [q.2.2]
def WP(c:ByteArray)(j:Nat):ByteArray:=(c++tT)++digit j
def checkN(c:ByteArray)(q:Int × List ByteArray × ByteArray):Bool :=
 decide (((UV q++[c,WP c 2,WP c 1]).map fun b=>b.data.toList).Nodup)&&(UV q++[c,WP c 2,WP c 1]).all (fun b=>b.data.toList.head? == c.data.toList.head?)&&(UV q).all zH&&[c,WP c 2,WP c 1].all jo &&
  jS ⟨c,0,false,false,[],[]⟩ ⟨0,0,q.1,gB q.2.1,0,[],q.2.2,es,0,0,0⟩
theorem am8:(KG (letter 1)).all (checkN (letter 1))=true:=by kernel_rfl
theorem an2:(KG (letter 2)).all (checkN (letter 2))=true:=by kernel_rfl
theorem am7:(KG (letter 3)).all (checkN (letter 3))=true:=by kernel_rfl
theorem an4:(KG (letter 4)).all (checkN (letter 4))=true:=by kernel_rfl
theorem aj9(hi:1<=i/\i<=4):∀q∈KG (letter i),checkN (letter i) q=true:=by
 rcases(show i=1\/i=2\/i=3\/i=4 by omega)with rfl|rfl|rfl|rfl
 ·exact List.all_eq_true.1 am8
 ·exact List.all_eq_true.1 an2
 ·exact List.all_eq_true.1 am7
 exact List.all_eq_true.1 an4
structure an0(c:ByteArray)(q:Int × List ByteArray × ByteArray):Prop where
 nd:(UV q++[c,WP c 2,WP c 1]).Nodup
 hd:∀b∈UV q++[c,WP c 2,WP c 1],b.data.toList.head?=c.data.toList.head?
 hid:∀b∈UV q,zH b=true
 vis:∀b∈[c,WP c 2,WP c 1],jo b=true
 nmd:jS ⟨c,0,false,false,[],[]⟩ ⟨0,0,q.1,gB q.2.1,0,[],q.2.2,es,0,0,0⟩=true
theorem aj2(hi:1<=i/\i<=4){q:Int × List ByteArray × ByteArray}(hq:q∈KG (letter i)):an0 (letter i) q:=by
 have h:=aj9 hi q hq;unfold checkN at h;simp only[eh]at h;obtain⟨⟨⟨⟨h1,h2⟩,h3⟩,h4⟩,h5⟩:=h;refine⟨?_,fun b hb=>by simpa using List.all_eq_true.1 h2 b hb,List.all_eq_true.1 h3,List.all_eq_true.1 h4,h5⟩;have:=of_decide_eq_true h1;exact List.Pairwise.of_map _ (fun a b hab e=>hab Tdt) this
theorem Tdl{p:Prop}(h:p:=by simp[KG]):p:=h
theorem TdE{p:Prop}(h:p:=by simp[UV,e0]):p:=h
theorem ik.shape{c:ByteArray}{names:List ByteArray}(h:ik e n c kind names lengths x) :
  ∃q∈KG c,q.1=kind/\x.kind=kind/\x.Ga=gB q.2.1/\x.log=q.2.2/\names=UV q/\x.pool=es/\names.length=lengths.length/\names.length<=4:=by
 have e0:es.toList.isEmpty=true:=by rw[A6];rfl
 cases h with
 |mirror k hk ch hc st hst =>
  rcases(show k=2\/k=3 by omega)with rfl|rfl
  ·exact⟨(3,aI c 2,es),Tdl,rfl,rfl,rfl,rfl,TdE,rfl,Tc3,Tc3⟩
  exact⟨(3,aI c 3,es),Tdl,rfl,rfl,rfl,rfl,TdE,rfl,Tc3,Tc3⟩
 |mirrorLog k hk ch hc st hst =>
  have e1:(c++qm).toList.isEmpty=false:=lS (by rw[CA];have:qm.size=4:=rfl;omega);rcases(show k=2\/k=3 by omega)with rfl|rfl
  ·exact⟨(3,aI c 2,c++qm),Tdl,rfl,rfl,rfl,rfl,by simp[UV,e1],rfl,Tc3,Tc3⟩
  exact⟨(3,aI c 3,c++qm),Tdl,rfl,rfl,rfl,rfl,by simp[UV,e1],rfl,Tc3,Tc3⟩
 |parity k hk ch hc =>
  rcases(show k=3\/k=4 by omega)with rfl|rfl
  ·exact⟨(4,aI c 3,es),Tdl,rfl,rfl,rfl,rfl,TdE,rfl,Tc3,Tc3⟩
  exact⟨(4,aI c 4,es),Tdl,rfl,rfl,rfl,rfl,TdE,rfl,Tc3,Tc3⟩
 |pool l ch hl hc=>exact⟨(5,[c++Ab,c++Aj],es),Tdl,rfl,rfl,rfl,rfl,TdE,rfl,rfl,TcO⟩
 |cache l m ch hl hm hc=>exact⟨(7,[c++EO,c++Aj,c++Ab],es),Tdl,rfl,rfl,rfl,rfl,TdE,rfl,rfl,TcO⟩
theorem ik.len{c:ByteArray}{names:List ByteArray}(h:ik e n c kind names lengths x)(he:e∈([1,2,4,8,16]:List Int))(hn:1<=n/\n<=3):∀l∈lengths,1<=l/\l<=1000:=by
 simp only[dr,cY,dg]at he;intro l hl;cases h with
 |mirror k hk ch hc st hst=>rw[tM]at hl;omega
 |mirrorLog k hk ch hc st hst =>
  rcases List.mem_append.1 hl with q|q
  ·rw[tM]at q;omega
  obtain rfl:=List.mem_singleton.1 q;rcases he with rfl|rfl|rfl|rfl|rfl<;>omega
 |parity k hk ch hc =>
  rw[tM]at hl;obtain⟨_,rfl⟩:=hl;rcases he with rfl|rfl|rfl|rfl|rfl<;>omega
 |pool l1 ch hl1 hc=>simp only[dr,cY,dg]at hl;omega
 |cache l1 m ch hl1 hm hc=>simp only[dr,cY,dg]at hl;omega
theorem ah7{l:List ByteArray}(h:List.Sublist l iQ):eP l=0:=by
 unfold iQ at h;rcases h with _|⟨_,h⟩|⟨_,h⟩<;>rcases h with _|⟨_,h⟩|⟨_,h⟩<;>rcases h with _|⟨_,h⟩|⟨_,h⟩<;>rcases h with _|⟨_,h⟩|⟨_,h⟩<;>cases h<;>kernel_rfl
theorem Tdr{p:Prop}(h:p:=by cases hv):p:=h
theorem lD.lk(h:lD id c ns ls ps vl) :
  vl.map (·.name)=ns/\ns.length=ls.length/\(∃ms:List Int,vl.map (·.id)=ms.map (oX id)/\ms.Pairwise (·<·)/\∀m∈ms,c<m/\m<=c+ns.length) /\
  (∀v∈vl,∃nm l on s,nm∈ns/\l∈ls/\∃i,v=eD nm i true l on s)/\∀(j:Nat) (nm:ByteArray) (l:Int),ns[j]?=some nm->ls[j]?=some l->∃i on s,eD nm i true l on s∈vl:=by
 induction h with
 |nil=>exact⟨rfl,rfl,⟨[],rfl,List.Pairwise.nil,fun m hm=>by cases hm⟩,fun v hv=>Tdr,fun j nm l hj=>by simp at hj⟩
 |@snoc ns ls ps vl nm on l s h ih =>
  obtain⟨e1,e2,⟨ms,e3,e4,e5⟩,e6,e7⟩:=ih;refine⟨by simp[e1,eD],by simp[e2],⟨ms++[c+ns.length+1],by simp[e3,eD],?_,fun m hm=>?_⟩,fun v hv=>?_,fun j nm' l' h1 h2=>?_⟩
  ·exact List.pairwise_append.2 ⟨e4,List.pairwise_singleton ..,fun a ha b hb=>by
    obtain rfl:=List.mem_singleton.1 hb;have:=e5 a ha;omega⟩
  ·rw[cD,A4];rcases List.mem_append.1 hm with q|q
   ·have:=e5 m q;omega
   obtain rfl:=List.mem_singleton.1 q;omega
  ·rcases List.mem_append.1 hv with q|q
   ·obtain⟨nm',l',on',s',a1,a2,i,a3⟩:=e6 v q;exact⟨nm',l',on',s',ju _ a1,ju _ a2,i,a3⟩
   obtain rfl:=List.mem_singleton.1 q;exact⟨nm,l,on,s,TcO,TcO,_,rfl⟩
  by_cases c1:j<ns.length
  ·rw[Fo c1]at h1;rw[Fo TcN]at h2;obtain⟨i,on',s',a⟩:=e7 j nm' l' h1 h2;exact⟨i,on',s',ju _ a⟩
  have hj:=(List.getElem?_eq_some_iff.1 h1).1;rw[cD,A4]at hj;obtain rfl:j=ns.length:=by omega
  rw[Cp (bk _),Nat.sub_self]at h1;rw[e2,Cp (bk _),Nat.sub_self]at h2;obtain rfl:nm=nm':=by simpa using h1
  obtain rfl:l=l':=by simpa using h2
  exact⟨_,_,_,P9 _ (List.mem_singleton.2 rfl)⟩
theorem am0{i:Int}{l:Int}{on:ByteArray}(h:1<=l/\l<=1000):C8 (eD nm i hd l on s)=l:=by
 simp only[C8,eD,dE,cF,cq,fF];omega
theorem iO.ex{c:ByteArray}{lo:Int}(h:iO id c k lo j tl)(hk:k<=2) :
  (tl.map (·.name)).Sublist [WP c 2,WP c 1]/\(∃ms:List Int,tl.map (·.id)=ms.map (oX id)/\ms.Pairwise (·<·)/\∀m∈ms,lo<=m/\m<lo+tl.length)/\tl.length<=2 /\
  ∀v∈tl,∃(i:Int) (len:Int) (j:Nat),1<=len/\len<=4/\1<=j/\j<=2/\v=jY c i len j:=by
 have hlen:=h.len;have key:∀v∈tl,∃(i:Int) (len:Int) (j:Nat),1<=len/\len<=4/\1<=j/\j<=2/\v=jY c i len j:=by
  clear hlen;induction h with
  |nil=>intro v hv;cases hv
  |snoc h hl ih =>
   intro v hv;rcases List.mem_append.1 hv with q|q
   ·exact ih v q
   obtain rfl:=List.mem_singleton.1 q;have:=h.len;exact⟨_,_,_,hl.1,hl.2,TcN,TcN,rfl⟩
 have ids:∃ms:List Int,tl.map (·.id)=ms.map (oX id)/\ms.Pairwise (·<·)/\∀m∈ms,lo<=m/\m<lo+tl.length:=by
  clear hlen key;induction h with
  |nil=>exact⟨[],rfl,List.Pairwise.nil,fun m hm=>by cases hm⟩
  |@snoc j vl len h hl ih =>
   obtain⟨ms,e3,e4,e5⟩:=ih;refine⟨ms++[lo+vl.length],by simp[e3,jY],List.pairwise_append.2 ⟨e4,List.pairwise_singleton ..,fun a ha b hb=>?_⟩,fun m hm=>?_⟩
   ·obtain rfl:=List.mem_singleton.1 hb;have:=e5 a ha;omega
   rw[cD,A4];rcases List.mem_append.1 hm with q|q
   ·have:=e5 m q;omega
   obtain rfl:=List.mem_singleton.1 q;omega
 refine⟨?_,ids,TcN,key⟩;clear ids key;cases h with
 |nil=>exact List.nil_sublist _
 |snoc h1 _=>cases h1 with
  |nil =>
   rcases(show j=0\/j=1 by omega)with rfl|rfl
   ·exact List.Sublist.cons _ (List.Sublist.refl _)
   exact List.Sublist.cons₂ _ (List.nil_sublist _)
  |snoc h2 _=>cases h2 with
   |nil =>
    obtain rfl:j=0:=by omega
    exact List.Sublist.refl _
   |snoc h3 _ =>
    have:=h3.len;exfalso
    omega
theorem ak6.mono{ext:Int}(hs:∀u∈L,u∈L')(h:ak6 ext L v):ak6 ext L' v:=⟨h.nm,h.tg,h.sl,h.fm,fun s k=>(h.sg s k).mono hs,h.hk⟩
theorem ai7(x:aB)(l:List aB):bg (x :: l)=x.length+bg l:=by simp[bg]
theorem af8(ext:Int)(m:Nat)(x:aB):∀(l:List aB) (st:Int),qV ext m l st=0->bJ ext x (st+bg l)=true->(oO x.kind).several=true->qV ext m (l++[x]) st=0
 |[],st,_,hf,hs=>by
  have e:st+bg []=st:=by simp[bg]
  rw[e]at hf;simp[qV,hf,hs]
 |y :: l,st,h,hf,hs=>by
  rw[List.cons_append];unfold qV at h ⊢;split at h
  ·cases h
  rename_i c1;rw[bh c1];split at h
  ·cases h
  rename_i c2;rw[bh c2];refine af8 ext m x l _ h ?_ hs;rw[ai7,<- Int.add_assoc]at hf;exact hf
theorem NE:es.toList.isEmpty=true:=by rw[A6];rfl
theorem ah6(ext st n:Int)(on:ByteArray)(s:Int)(h:1<=n/\n<=1000):bJ ext (aV st n 1 [⟨false,on,s⟩] 0) st=true:=by
 have h1:decide (1<=n)=true:=eA h.1;have h2:decide (n<=32768)=true:=eA TcN;simp[bJ,shapeOf,aV,bT,fq,dP,bE,NE,h1,h2];exact⟨h1,h2⟩
theorem ak1(ext st n kind:Int)(h:1<=n/\n<=1000)(hk:kind=9\/kind=10):bJ ext (aV st n kind [] 0) st=true:=by
 have h1:decide (1<=n)=true:=eA h.1;have h2:decide (n<=32768)=true:=eA TcN;rcases hk with rfl|rfl<;>simp[bJ,shapeOf,aV,fq,dP,bE,NE,h1,h2]<;>exact⟨h1,h2⟩
theorem ak7(ext st n dn:Int)(on on':ByteArray)(s s':Int)(h:1<=n/\n<=1000)(hd:0<=dn/\dn<=n):bJ ext (aV st n 8 [⟨false,on,s⟩,⟨false,on',s'⟩] dn) st=true:=by
 have h1:decide (1<=n)=true:=eA h.1;have h2:decide (n<=32768)=true:=eA TcN;have h3:decide (0<=dn)=true:=eA hd.1;have h4:decide (dn<=n)=true:=eA hd.2;simp[bJ,shapeOf,aV,bT,fq,dP,bE,NE,h1,h2,h3,h4];exact⟨⟨h1,h2⟩,h3,h4⟩
theorem fB.form{on:ByteArray}(ext:Int)(m:Nat)(h:fB [dE n on s] l)(hn:1<=n/\n<=1000):qV ext m l 0=0:=by
 induction h with
 |nil =>
  have h1:=ah6 ext 0 n on s hn;have h2:(dE n on s)=aV 0 n 1 [⟨false,on,s⟩] 0:=rfl;have h3:(oO 1).several=true:=rfl;rw[h2];simp only[qV,h1];simp[aV,h3]
 |@void l' n' kind h hn' hk ih =>
  refine af8 ext m _ _ _ ih ?_ (by rcases hk with rfl|rfl<;>rfl);rw[Int.zero_add];exact ak1 _ _ _ _ TcN hk
 |lin h hn' ih =>
  refine af8 ext m _ _ _ ih ?_ rfl;rw[Int.zero_add];exact ah6 _ _ _ _ _ TcN
 |move h hn' hd ih =>
  refine af8 ext m _ _ _ ih ?_ rfl;rw[Int.zero_add];exact ak7 _ _ _ _ _ _ _ _ TcN hd
theorem ag2(st n s:Int)(on:ByteArray):af6 (aV st n 1 [⟨false,on,s⟩] 0):=⟨.inl (.inl rfl),fun a ha=>by
  obtain rfl:a=⟨false,on,s⟩:=by simpa[aV]using ha
  rfl,fun q=>absurd (.inl rfl) q,rfl⟩
theorem fB.plain{on:ByteArray}(h:fB [dE n on s] l):∀x∈l,af6 x:=by
 induction h with
 |nil =>
  intro x hx;obtain rfl:=List.mem_singleton.1 hx;exact ag2 0 n s on
 |void h hn' hk ih =>
  intro x hx;rcases List.mem_append.1 hx with q|q
  ·exact ih x q
  obtain rfl:=List.mem_singleton.1 q;exact⟨.inr hk,fun a ha=>by simp[aV]at ha,fun _=>rfl,rfl⟩
 |lin h hn' ih =>
  intro x hx;rcases List.mem_append.1 hx with q|q
  ·exact ih x q
  obtain rfl:=List.mem_singleton.1 q;exact ag2 _ _ _ _
 |move h hn' hd ih =>
  intro x hx;rcases List.mem_append.1 hx with q|q
  ·exact ih x q
  obtain rfl:=List.mem_singleton.1 q;refine⟨.inl (.inr (.inr rfl)),fun a ha=>?_,fun q=>absurd (.inr (.inr rfl)) q,rfl⟩;simp only[aV,dr,cY,dg]at ha;rcases ha with rfl|rfl<;>rfl
theorem al2(ext k n:Int)(al:List aR)(hk:2<=k/\k<=3)(hn:1<=n/\n<=2)(hl:(al.length:Int)=k)(ha:∀a∈al,a.vol=false):bJ ext (ic k n al) 0=true:=by
 have h0:al.all (bT ⟨2,6,false,true,1,false,false,false,false,false⟩)=true:=List.all_eq_true.2 fun a h=>by simp[bT,ha a h]
 have hm:(k*n)%(al.length:Int)=0:=by rw[hl];exact Int.mul_emod_right k n
 have hp:1<=k*n/\k*n<=6:=by
  rcases(show k=2\/k=3 by omega)with rfl|rfl<;>omega
 have h1:decide (1<=k*n)=true:=eA hp.1;have h2:decide (k*n<=32768)=true:=eA TcN;have h3:decide (2<=(al.length:Int))=true:=eA TcN;have h4:decide ((al.length:Int)<=6)=true:=eA TcN;simp only[bJ,shapeOf,ic];simp[h0,h1,h2,h3,h4,hm,fq,dP,bE,NE];exact⟨⟨⟨h1,h2⟩,h3⟩,h4⟩
theorem aj4(x:eX)(hx:x.F9=true)(l:List ByteArray):(gB l).all (bT x)=true:=List.all_eq_true.2 fun a h=>by
 obtain⟨n,_,rfl⟩:=List.mem_map.1 h;simp[bT,hx]
theorem af5(l:List ByteArray):(gB l).length=l.length:=by simp[gB]
theorem IR(c:ByteArray)(k:Nat):(aI c k).length=k:=by simp[aI]
theorem ik.form{c:ByteArray}{names:List ByteArray}(h:ik e n c kind names lengths x)(hn:1<=n/\n<=3)(he:1<=e):bJ e x 0=true:=by
 have h1:decide (1<=n)=true:=eA hn.1;have h2:decide (n<=32768)=true:=eA TcN;cases h with
 |mirror k hk ch hc st hst =>
  have e1:∀x:eX,x.F9=true->(gB (aI c k)).all (bT x)=true:=fun x hx=>aj4 x hx _;have a1:decide ((2:Int)<=(k:Int))=true:=eA TcN;have a2:decide ((k:Int)<=6)=true:=eA TcN;have a3:decide (1<=ch)=true:=eA TcN;have a4:decide (ch<=1024)=true:=eA TcN;rcases hst with rfl|⟨i,hi1,hi2,rfl⟩
  ·simp[bJ,shapeOf,e1,af5,IR,a1,a2,a3,a4,h1,h2,fq,dP,bE,NE]
  have b1:decide (0<=i)=true:=eA hi1;have b2:decide (i<(k:Int))=true:=eA hi2;simp[bJ,shapeOf,e1,af5,IR,a1,a2,a3,a4,h1,h2,fq,dP,bR,bE,NE,b1,b2,List.range_succ]
 |mirrorLog k hk ch hc st hst =>
  have e1:∀x:eX,x.F9=true->(gB (aI c k)).all (bT x)=true:=fun x hx=>aj4 x hx _;have e2:(c++qm).toList.isEmpty=false:=lS (by rw[CA];have:qm.size=4:=rfl;omega);have a1:decide ((2:Int)<=(k:Int))=true:=eA TcN;have a2:decide ((k:Int)<=6)=true:=eA TcN;have a3:decide (1<=ch)=true:=eA TcN;have a4:decide (ch<=1024)=true:=eA TcN;rcases hst with rfl|⟨i,hi1,hi2,rfl⟩
  ·simp[bJ,shapeOf,e1,e2,af5,IR,a1,a2,a3,a4,h1,h2,fq,dP,bE,NE]
  have b1:decide (0<=i)=true:=eA hi1;have b2:decide (i<(k:Int)+1)=true:=eA TcN;simp[bJ,shapeOf,e1,e2,af5,IR,a1,a2,a3,a4,h1,h2,fq,dP,bR,bE,NE,b1,b2,List.range_succ]
 |parity k hk ch hc =>
  have e1:∀x:eX,x.F9=true->(gB (aI c k)).all (bT x)=true:=fun x hx=>aj4 x hx _
  have hp:1<=n*((k:Int)-1)/\n*((k:Int)-1)<=32768:=by
   rcases(show k=3\/k=4 by omega)with rfl|rfl<;>omega
  have a1:decide ((3:Int)<=(k:Int))=true:=eA TcN;have a2:decide ((k:Int)<=6)=true:=eA TcN;have b1:decide (1<=n*((k:Int)-1))=true:=eA hp.1;have b2:decide (n*((k:Int)-1)<=32768)=true:=eA hp.2;have hm:(n*((k:Int)-1))%((k:Int)-1)=0:=Int.mul_emod_left n _;have c1:decide (1<=ch)=true:=eA TcN;have c2:e%ch=0:=by
   rcases hc with rfl|rfl
   ·exact Int.emod_one _
   exact Int.emod_self
  simp[bJ,shapeOf,e1,af5,IR,a1,a2,b1,b2,c1,c2,hm,fq,dP,bE,NE]
 |pool l ch hl hc =>
  have a3:decide (1<=ch)=true:=eA TcN;have a4:decide (ch<=64)=true:=eA TcN;simp[bJ,shapeOf,gB,bT,a3,a4,h1,h2,fq,dP,bE,NE]
 |cache l m ch hl hm hc =>
  have a3:decide (1<=ch)=true:=eA TcN;have a4:decide (ch<=64)=true:=eA TcN;have a5:decide (1<=m)=true:=eA TcN;have a6:decide (m<=2)=true:=eA TcN;simp[bJ,shapeOf,gB,bT,a3,a4,a5,a6,h1,h2,fq,dP,bE,NE]
theorem ak9(e st len:Int)(c:ByteArray)(j:Nat)(h:1<=len/\len<=4)(hj:1<=j/\j<=2):bJ e ⟨0,len,6,[],0,[],es,c,j,0,0⟩ 0=true:=by
 have h1:decide (1<=len)=true:=eA h.1;have h2:decide (len<=32768)=true:=eA TcN;have h3:decide (1<=(j:Int))=true:=eA TcN;have h4:decide ((j:Int)<=65535)=true:=eA TcN;simp[bJ,shapeOf,fq,dP,bE,NE,h1,h2,h3,h4]
theorem ag3(ext:Int)(x:aB)(h:bJ ext x 0=true):qV ext 1 [x] 0=0:=by simp[qV,h]
theorem am6(c:ByteArray):(3,aI c 2,es)∈KG c:=by simp[KG]
theorem ag8(hi:1<=i/\i<=4):jo (letter i)=true:=(aj2 hi (am6 _)).vis _ (cG ..)
theorem ag9:eP []=0:=by kernel_rfl
theorem ag7(a b:List ay):aA (a++b)=aA a++aA b:=by simp[aA]
theorem ah3(a b:List (ay × aB))(p:Bool):dA (a++b) p=dA a p++dA b p:=by simp[dA]
theorem ah8(a b:List ay):ag5 (a++b)=ag5 a++ag5 b:=by simp[ag5]
theorem ah5{l:List (ay × aB)}{p:Bool}(h:∀q∈l,dD q.2 p=[]):dA l p=[]:=List.eq_nil_iff_forall_not_mem.2 fun nm hn=>by
 obtain⟨q,hq,h1⟩:=List.mem_flatMap.1 hn;rw[h q hq]at h1;cases h1
theorem WF{p:ay × aB}(h:p∈aA L):p.1∈L/\p.2∈p.1.Gf:=by
 obtain⟨v,hv,h1⟩:=List.mem_flatMap.1 h;obtain⟨s,hs,rfl⟩:=List.mem_map.1 h1;exact⟨hv,hs⟩
theorem af6.used{s:aB}(h:af6 s)(p:Bool):dD s p=[]:=by
 unfold dD;have e1:s.Ga.filter (·.vol)=[]:=List.filter_eq_nil_iff.2 fun a q=>by simp[h.ha a q]
 have e2:(s.kind==6)=false:=by
  rcases h.hk with(q|q|q)|q|q<;>rw[q]<;>rfl
 rw[e1,h.hl,NE,e2,Bool.and_false];rfl
theorem af9(h:∀v∈vs,∀s∈v.Gf,af6 s)(p:Bool):dA (aA vs) p=[]:=ah5 fun q hq=>by
 obtain⟨q1,q2⟩:=WF hq;exact(h _ q1 _ q2).used p
theorem ah2(h:∀v∈vs,v.hidden=false):ag5 vs=[]:=by
 unfold ag5;rw[List.filter_eq_nil_iff.2 fun a q=>by simp[h a q]];rfl
theorem al0(h:∀v∈vs,v.hidden=true):ag5 vs=vs.map (·.name):=by
 unfold ag5;rw[List.filter_eq_self.2 fun a q=>h a q]
theorem ah1{c:ByteArray}{names:List ByteArray}(h:ik e n c kind names lengths x)(hk:kind=3\/kind=4\/kind=5\/kind=7)(p:Bool):dD x p=names:=by
 obtain⟨q,_,h1,h2,h3,h4,h5,_⟩:=h.shape;have e6:(x.kind==6)=false:=by rw[h2];simp;omega
 have e1:∀l:List ByteArray,((gB l).filter (·.vol)).map (·.on)=l:=fun l=>by
  induction l with
  |nil=>rfl
  |cons a l ih=>simpa[gB]using ih
 unfold dD;rw[h3,e1,h4,e6,Bool.and_false,h5];simp[UV]
theorem Tep{p:Prop}(h:p:=by show g.next<=g.next+1;omega):p:=h
theorem iy.blk(hi:1<=i/\i<=4){next:List Int}(h:iy (letter i) g next g' next')(he:g.Gd∈([1,2,4,8,16]:List Int)) :
  ∃new,g'.F9=g.F9++new/\Blk g.Gd g.id g.next g'.next i new/\g.next<=g'.next:=by
 have he1:1<=g.Gd:=by
  simp only[dr,cY,dg]at he;omega
 have an8:∀hi':Int,Blk g.Gd g.id g.next hi' i []:=fun _=>⟨TcO,TcO,fun v hv=>Tdr,⟨[],rfl,List.Pairwise.nil,fun m hm=>by cases hm⟩,fun v hv=>Tdr,rfl⟩
 cases h with
 |linF=>exact⟨[],TcO,an8 _,Tep⟩
 |strF _=>exact⟨[],TcO,an8 _,Int.le_refl _⟩
 |@compF j _=>exact⟨[],TcO,an8 _,by show g.next<=g.next+j;omega⟩
 |@lin n s on next1 next' Gf ps hn h1 hm hl h2 hs =>
  refine⟨_,rfl,⟨TcO,TcO,fun v hv=>?_,⟨[g.next+1],rfl,List.pairwise_singleton ..,fun m hm=>?_⟩,fun v hv=>?_,?_⟩,Tep⟩
  ·obtain rfl:=List.mem_singleton.1 hv;rfl
  ·obtain rfl:=List.mem_singleton.1 hm;show g.next<g.next+1/\g.next+1<=g.next+1;omega
  ·obtain rfl:=List.mem_singleton.1 hv;exact⟨ag8 hi,ag9,⟨hm.len,TcU⟩,hm.form _ _ TcN,fun x hx=>.plain (hm.plain x hx),fun q=>by cases q⟩
  rw[af9 fun v hv s hs=>?_,ah2 fun v hv=>?_]
  ·obtain rfl:=List.mem_singleton.1 hv;rfl
  obtain rfl:=List.mem_singleton.1 hv;exact hm.plain s hs
 |@str k n al next' hk hn hl ha h =>
  have hp:af6 (ic k n al):=⟨.inl (.inr (.inl rfl)),ha,fun q=>absurd (.inr (.inl rfl)) q,rfl⟩;refine⟨_,rfl,⟨TcO,TcO,fun v hv=>?_,⟨[g.next+1],rfl,List.pairwise_singleton ..,fun m hm=>?_⟩,fun v hv=>?_,?_⟩,Tep⟩
  ·obtain rfl:=List.mem_singleton.1 hv;rfl
  ·obtain rfl:=List.mem_singleton.1 hm;show g.next<g.next+1/\g.next+1<=g.next+1;omega
  ·obtain rfl:=List.mem_singleton.1 hv;refine⟨ag8 hi,ag9,⟨by simp[mf],by simp[mf]⟩,ag3 _ _ (al2 _ _ _ _ hk hn hl ha),fun x hx=>?_,fun q=>by cases q⟩;obtain rfl:=List.mem_singleton.1 hx;exact .plain hp
  rw[af9 fun v hv s hs=>?_,ah2 fun v hv=>?_]
  ·obtain rfl:=List.mem_singleton.1 hv;rfl
  obtain rfl:=List.mem_singleton.1 hv;obtain rfl:=List.mem_singleton.1 hs;exact hp
 |@comp kind n names lengths x ps vl tl ro tags k j next' AK hn hR hH hT ht hk hk5 hth =>
  obtain⟨q,hq,e1,e2,e3,e4,e5,e6,e7,e8⟩:=hR.shape;have G:=aj2 hi hq;obtain⟨v1,_,⟨ms,v2,v3,v4⟩,v5,v6⟩:=hH.lk;obtain⟨t1,⟨ns,t2,t3,t4⟩,t5,t6⟩:=hth.ex hk;have hlen:=hR.len he hn;have mb:vl.length=names.length:=by rw[<- v1,fW]
  have u9:((vl++[⟨letter i,oX g.id (g.next+names.length+1),false,ro,tags,[x]⟩]++tl:List ay).map (·.name)).Sublist (UV q++[letter i,WP (letter i) 2,WP (letter i) 1]):=by
   rw[gl,gl,v1,e5,cV];exact(List.Sublist.refl _).append (List.Sublist.cons₂ _ t1)
  have NM:∀v∈vl,v∈(vl++[⟨letter i,oX g.id (g.next+names.length+1),false,ro,tags,[x]⟩]++tl:List ay):=fun v hv=>ju _ (ju _ hv);have ao3:(⟨letter i,oX g.id (g.next+names.length+1),false,ro,tags,[x]⟩:ay)∈(vl++[⟨letter i,oX g.id (g.next+names.length+1),false,ro,tags,[x]⟩]++tl:List ay):=ju _ (P9 _ (List.mem_singleton.2 rfl));refine⟨vl++[⟨letter i,oX g.id (g.next+names.length+1),false,ro,tags,[x]⟩]++tl,TcO,⟨?_,u9.nodup G.nd,fun v hv=>?_,⟨ms++[g.next+names.length+1]++ns,by simp[v2,t2],?_,?_⟩,fun v hv=>?_,?_⟩,?_⟩
  ·simp only[cD,A4];omega
  ·exact G.hd _ (u9.subset (List.mem_map.2 ⟨v,hv,rfl⟩))
  ·refine List.pairwise_append.2 ⟨List.pairwise_append.2 ⟨v3,List.pairwise_singleton ..,fun a ha b hb=>?_⟩,t3,fun a ha b hb=>?_⟩
   ·obtain rfl:=List.mem_singleton.1 hb;have:=v4 a ha;omega
   have hb':=t4 b hb;rcases List.mem_append.1 ha with z|z
   ·have:=v4 a z;omega
   obtain rfl:=List.mem_singleton.1 z;omega
  ·intro m hm;show g.next<m/\m<=g.next+names.length+1+tl.length;rcases List.mem_append.1 hm with z|z
   ·rcases List.mem_append.1 z with z|z
    ·have:=v4 m z;omega
    obtain rfl:=List.mem_singleton.1 z;omega
   have:=t4 m z;omega
  ·rcases List.mem_append.1 hv with z|z
   ·rcases List.mem_append.1 z with z|z
    ·obtain⟨nm,l,on,s,h1,h2,i',rfl⟩:=v5 v z;have hl:=hlen l h2;exact⟨G.hid nm (e5 ▸ h1),ag9,⟨by simp[eD],by simp[eD]⟩,ag3 _ _ (ah6 _ 0 l on s hl),fun y hy=>by
      obtain rfl:=List.mem_singleton.1 hy;exact .plain (ag2 0 l s on),fun _=>rfl⟩
    obtain rfl:=List.mem_singleton.1 z;refine⟨ag8 hi,ah7 ht,⟨TcO,TcO⟩,ag3 _ _ (hR.form hn he1),fun y hy=>?_,fun q=>by cases q⟩;obtain rfl:=List.mem_singleton.1 hy;refine .comp AK hR hn i hi rfl fun j nm l a b=>?_;obtain⟨i',on,s,hm⟩:=v6 j nm l a b;exact⟨_,NM _ hm,rfl,rfl,am0 (hlen l (ct b))⟩
   obtain⟨i',len,j',a1,a2,a3,a4,rfl⟩:=t6 v z;have hk5':kind=5:=Classical.byContradiction fun c=>by
    obtain⟨c1,c2⟩:=hk5 c;have:=hth.len;rw[List.length_eq_zero_iff.1 (show tl.length=0 by omega)]at z;cases z
   refine⟨?_,ag9,⟨by simp[jY],by simp[jY]⟩,ag3 _ _ (ak9 _ 0 _ _ _ ⟨a1,a2⟩ ⟨a3,a4⟩),fun y hy=>?_,fun q=>by cases q⟩
   ·have eE:=G.vis;show jo (WP (letter i) j')=true;rcases(show j'=1\/j'=2 by omega)with rfl|rfl
    ·exact eE _ TcO
    exact eE _ TcO
   obtain rfl:=List.mem_singleton.1 hy;exact .thin rfl rfl rfl rfl j' rfl rfl ⟨_,ao3,rfl,by show x.kind=5;rw[e2,hk5']⟩
  ·have n1:dA (aA vl) false=[]:=af9 (fun v hv s hs=>by
    obtain⟨nm,l,on,s',h1,h2,i',rfl⟩:=v5 v hv;obtain rfl:=List.mem_singleton.1 hs;exact ag2 0 l s' on) _
   have n2:ag5 vl=names:=by
    rw[al0 fun v hv=>?_,v1];obtain⟨nm,l,on,s',h1,h2,i',rfl⟩:=v5 v hv;rfl
   have n3:dA (aA tl) false=[]:=ah5 fun q hq=>by
    obtain⟨q1,q2⟩:=WF hq;obtain⟨i',len,j',a1,a2,a3,a4,e⟩:=t6 _ q1;rw[e]at q2;rw[List.mem_singleton.1 q2];simp[dD,NE]
   have n4:ag5 tl=[]:=ah2 fun v hv=>by
    obtain⟨i',len,j',a1,a2,a3,a4,rfl⟩:=t6 v hv;rfl
   have n5:dA (aA [⟨letter i,oX g.id (g.next+names.length+1),false,ro,tags,[x]⟩]) false=names:=by
    simp[aA,dA,ah1 hR AK]
   rw[ag7,ag7,ah3,ah3,ah8,ah8,n1,n2,n3,n4,n5];simp[ag5]
  show g.next<=g.next+names.length+1+tl.length;omega
end Go.Proofs.YtillcmhjhajimaaGreatDoor
