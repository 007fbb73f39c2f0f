/- Lemmas: NeeF, PolA, SpCa, RanC. -/
import Derived.Test.YtjdfihglehfelaaGreatDoorPk29
import Derived.Test.YtjdfihglehfelaaGreatDoorPk27
import Derived.RangeFuncNested
import Derived.RangeFuncBound
import Derived.Shelf.RegionOpen
import Derived.OwnWalkIn
import Derived.LoopNIn
import Derived.LoopIn
set_option maxRecDepth 100000
set_option maxHeartbeats 32000000
set_option linter.all false
namespace Go.Proofs.YtjdfihglehfelaaGreatDoor
open Go.RowKit Go.Maps Go.Shelf
def onB (AL:List aR)(d:ByteArray):Bool:=AL.any fun a=>decide (a.on=d)&&!a.vol
def onF (AL:List aR):Value→Option Value
 | .string s=>if (AL.any fun a=>decide (a.on=s))=true then some (.bool (onB AL s)) else none
 | _=>none
theorem Al (AL:List aR)(s:ByteArray):(onF AL (.string s)).getD (.bool false)=.bool (onB AL s):=by
 show (if (AL.any fun a=>decide (a.on=s))=true then some (Value.bool (onB AL s)) else none).getD (.bool false)=_
 by_cases h:(AL.any fun a=>decide (a.on=s))=true
 ·rw [if_pos h]
  rfl
 ·rw [if_neg h]
  have:onB AL s=false:=by
   unfold onB;rw [List.any_eq_false];intro a ha e;simp only [Bool.and_eq_true] at e;exact h (List.any_eq_true.2 ⟨a,ha,e.1⟩)
  rw [this];rfl
theorem wZ (AL:List aR)(a:aR)(s:ByteArray):onB (AL++[a]) s=(onB AL s||(decide (a.on=s)&&!a.vol)):=by
 unfold onB;rw [List.any_append];simp
theorem DJ (AL:List aR)(a:aR)(key:Value):onF (AL++[a]) key=upd (onF AL) (.string a.on) (.bool (onB AL a.on||!a.vol)) key:=by
 by_cases h:key=.string a.on
 ·subst h
  rw [upd_same];simp [onF,wZ]
 ·rw [bP h]
  unfold onF;split
  ·rename_i s
   have:¬ a.on=s:=fun e=>h (by rw [e]);rw [wZ,List.any_append];simp [this]
  ·rfl
def bV (l:List aB):List aR:=l.flatMap (·.Ga)
def dB (F9:List ay)(P:List ByteArray):List aR:=P.flatMap fun x=>bV ((aM F9 x).getD eY).Gf
theorem o9 {l:List aB}{k:Nat}{s:aB}(h:l[k]?=some s):bV (l.take (k+1))=bV (l.take k)++s.Ga:=by
 rw [take_snoc' l k s h];simp [bV]
theorem A8 {l:List aB}{k:Nat}{s:aB}(h:l[k]?=some s):(bV (l.take k)).length+s.Ga.length≤(bV l).length:=by
 have:(bV l).length=(bV (l.take (k+1))).length+(bV (l.drop (k+1))).length:=by
  conv=>lhs;rw [← List.take_append_drop (k+1) l]
  unfold bV;rw [List.flatMap_append,List.length_append]
 rw [this,o9 h,List.length_append];omega
theorem xN (F9:List ay){l:List ByteArray}{k:Nat}{x:ByteArray}(h:l[k]?=some x):dB F9 (l.take (k+1))=dB F9 (l.take k)++bV ((aM F9 x).getD eY).Gf:=by
 rw [take_snoc' l k x h];simp [dB]
theorem FI (F9:List ay)(P:List ByteArray)(d:ByteArray):onB (dB F9 P) d=P.any (onV F9 d):=by
 unfold onB dB;rw [List.any_flatMap]
 congr 1
 funext x
 unfold onV bV;rw [List.any_flatMap];rfl
structure rT (g:af):Prop where
 us:uw g
 dn:∀ d∈g.Gb,d.name.size≤maxLen
 dl:g.Gb.length≤1000
 ar:∀ v∈g.F9,(bV v.Gf).length≤1000
 an:∀ v∈g.F9,∀ s∈v.Gf,∀ a∈s.Ga,a.on.size≤maxLen
theorem rV {g:af}(h:rT g)(x:ByteArray):(bV ((aM g.F9 x).getD eY).Gf).length≤1000:=by
 cases hf:aM g.F9 x with
 | none=>simp [eY,bV]
 | some v=>exact h.ar v (List.mem_of_find?_eq_some hf)
theorem rX {g:af}(h:rT g):∀ P:List ByteArray,(dB g.F9 P).length≤1000*P.length
 | []=>by simp [dB]
 | x :: P=>by
  have h1:=rV h x;have h2:=rX h P;unfold dB at h2 ⊢;rw [List.flatMap_cons,List.length_append,List.length_cons];omega
theorem BP {g:af}(h:rT g)(x:ByteArray):∀ s∈((aM g.F9 x).getD eY).Gf,∀ a∈s.Ga,a.on.size≤maxLen:=by
 cases hf:aM g.F9 x with
 | none=>simp [eY]
 | some v=>exact h.an v (List.mem_of_find?_eq_some hf)
open Classical in
theorem Cx {F9:List ay}{nm:ByteArray}{met:List ByteArray}(h:∀ x,x∈met↔Reach (dU F9) ((dU F9 nm).getD []) x)(x:ByteArray):bI (met++[nm]) x=Fj F9 nm x:=by
 unfold Fj;rw [Bool.eq_iff_iff,ny,decide_eq_true_eq,List.mem_append,List.mem_singleton,h x];exact Or.comm
theorem o8 {α:Type}(nm:α→ByteArray){p q:ByteArray→Bool}(h:∀ x,p x=q x)(l:List α):gD nm p l=gD nm q l:=by
 rw [show p=q from funext h]
attribute [local go_sem] run_makeMap_plain
theorem Cf {ok:Nat→Prop}(g:af)(a:bN)(nm:ByteArray)(w:World)(hr:RdS aN 6 ok w [.slice a.vp g.F9.length a.vc] g.F9)(hd:RdS aO 7 ok w [.slice a.dp g.Gb.length a.dc] g.Gb)(hz:rT g)(hnm:nm.size≤maxLen) :
  Calls Tryz.prog 49 #[.agg #[.string g.name,.int .u64 g.id,.int .i64 g.seq,.int .i64 g.Gd,.int .i64 g.next,.slice a.tp g.tags.length a.tc,.slice a.dp g.Gb.length a.dc,.slice a.vp g.F9.length a.vc,.slice a.hp g.history.length a.hc],.string nm] w (Dx w.heap.size w (sP g nm)):=by
 have HG:=aa hr;clear hr;have HD:=aa hd;have HZ:=aa hz;have hdl:=hz.dl;clear hz;obtain ⟨dp,dc,hdpc,hdc1,hdc2⟩:=hd.cap;clear hd
 have hdca:g.Gb.length≤a.dc∧a.dc≤9223372036854775807:=by
  injection hdpc with e1 e2 e3
  omega
 clear hdpc hdc1 hdc2 dp dc;have hA1:=ae w (.cells #[.string g.name,.int .u64 g.id,.int .i64 g.seq,.int .i64 g.Gd,.int .i64 g.next,.slice a.tp g.tags.length a.tc,.slice a.dp g.Gb.length a.dc,.slice a.vp g.F9.length a.vc,.slice a.hp g.history.length a.hc] 31);have HB1:=aa hA1;clear hA1;have HBg:=aa (heap_alloc_new w (.cells #[.string g.name,.int .u64 g.id,.int .i64 g.seq,.int .i64 g.Gd,.int .i64 g.next,.slice a.tp g.tags.length a.tc,.slice a.dp g.Gb.length a.dc,.slice a.vp g.F9.length a.vc,.slice a.hp g.history.length a.hc] 31))
 have gL:∀ (i:Nat) (z:Value),[.string g.name,.int .u64 g.id,.int .i64 g.seq,.int .i64 g.Gd,.int .i64 g.next,.slice a.tp g.tags.length a.tc,.slice a.dp g.Gb.length a.dc,.slice a.vp g.F9.length a.vc,.slice a.hp g.history.length a.hc][i]?=some z→(w.alloc (.cells #[.string g.name,.int .u64 g.id,.int .i64 g.seq,.int .i64 g.Gd,.int .i64 g.next,.slice a.tp g.tags.length a.tc,.slice a.dp g.Gb.length a.dc,.slice a.vp g.F9.length a.vc,.slice a.hp g.history.length a.hc] 31)).cell? ⟨w.heap.size,i,none⟩=some z:=fun i z hz=>by
  simp only [World.cell?,HBg.out];simpa using hz
 go_enter Tryz.func49,Tryz.ntmps49
 go_upto_region 1 with (fail)
 generalize hW1:World.alloc w _=W1 at *;have g0:=gL 0 _ rfl;have g1:=gL 1 _ rfl;have g2:=gL 2 _ rfl;have g3:=gL 3 _ rfl;have g4:=gL 4 _ rfl;have g5:=gL 5 _ rfl;have g6:=gL 6 _ rfl;have g7:=gL 7 _ rfl;have g8:=gL 8 _ rfl;clear gL hW1
 go_wp2_with fail
 clear g0 g1 g2 g3 g4 g5 g6 g7 g8;refine (AY (ok:=ok) g a nm W1 ((RdS.moves aN.moves).mv (Mv.of HB1.out) HG.out) HZ.out.us hnm).mono ?_;rintro e w2 ⟨bm,met,rfl,hmv,hreach,hml,hb2,hbm⟩;have HRE:=aa hreach;clear hreach;have HMV:=aa hmv;clear hmv;have HB2:=aa (HB1.out.trans (hb2.mono HB1.out.size));have HBg2:=aa ((hb2.block _ (lt_of_block HBg.out)).trans HBg.out);have hwz1:=lt_of_block HBg.out;clear hb2 HB1 HBg;have hA:=ae w2 (.cells #[.map (some bm)] 130);have HX3:=aa (heap_alloc_new w2 (.cells #[.map (some bm)] 130));have HMV3:=aa (HMV.out.block (hA.block _ HMV.out.lt));have HB3:=aa (HB2.out.trans (hA.mono HB2.out.size));have HBg3:=aa ((hA.block _ (lt_of_block HBg2.out)).trans HBg2.out);have hwz2:=HB2.out.size;have hbml:=HMV.out.lt;clear hA HMV HBg2 HB2
 go_upto_region 2 with (fail)
 generalize hW3:World.alloc w2 _=W3 at *;generalize hBx:w2.heap.size=Bx at *;clear hW3;have x0:W3.cell? ⟨Bx,0,none⟩=some (.map (some bm)):=by simp [World.cell?,HX3.out]
 obtain ⟨w4,hst,hm',hg',hz'⟩:=bi.store HMV3.out oM Tryz.underlying130 (by unfold maxLen;omega) (key:=.string nm) (gG nm hnm) (.bool true);have HMV4:Hid (bi Tryz.prog 9 w4 bm (met.length+1) (oN (met++[nm]))):=aa (hm'.congr fun key _ _=>uH met nm key);have HB4:Hid (Below w.heap.size w w4):=aa (HB3.out.trans ((Mod.grown hg').below (B:=w.heap.size) HB3.out.size (fun q e=>by omega)));have HX4:=aa (((Mod.grown hg').block Bx (lt_of_block HX3.out) (by omega)).trans HX3.out);have HBg4:=aa (((Mod.grown hg').block w.heap.size (lt_of_block HBg3.out) (by omega)).trans HBg3.out);clear hm' hg' hz' HMV3 HX3 HBg3 HB3
 go_upto_region 3 with (fail)
 clear hst x0;have hA:=ae w4 (.map #[] 0);have HMO:=aa (bi.made Tryz.prog 9 w4);have HMV5:=aa (HMV4.out.block (hA.block _ HMV4.out.lt));have HB5:=aa (HB4.out.trans (hA.mono HB4.out.size));have HX5:=aa ((hA.block _ (lt_of_block HX4.out)).trans HX4.out);have HBg5:=aa ((hA.block _ (lt_of_block HBg4.out)).trans HBg4.out);have hbz:=lt_of_block HBg4.out;clear hA HMV4 HX4 HBg4 HB4
 go_upto_region 4 with (fail)
 generalize hW5:World.alloc w4 _=W5 at *;generalize hbo:w4.heap.size=bo at *;clear hW5
 have gL:∀ (i:Nat) (z:Value),[.string g.name,.int .u64 g.id,.int .i64 g.seq,.int .i64 g.Gd,.int .i64 g.next,.slice a.tp g.tags.length a.tc,.slice a.dp g.Gb.length a.dc,.slice a.vp g.F9.length a.vc,.slice a.hp g.history.length a.hc][i]?=some z→W5.cell? ⟨w.heap.size,i,none⟩=some z:=fun i z hz=>by
  simp only [World.cell?,HBg5.out];simpa using hz
 have g0:=gL 0 _ rfl;have g1:=gL 1 _ rfl;have g2:=gL 2 _ rfl;have g3:=gL 3 _ rfl;have g4:=gL 4 _ rfl;have g5:=gL 5 _ rfl;have g6:=gL 6 _ rfl;have g7:=gL 7 _ rfl;have g8:=gL 8 _ rfl;clear gL
 go_wp2_with fail
 clear g0 g1 g2 g3 g4 g5 g6 g7 g8;refine (Dw (ok:=ok) g a Bx bm _ (met++[nm]) W5 ((RdS.moves aN.moves).mv (Mv.of HB5.out) HG.out) HZ.out.us (by simp [World.cell?,HX5.out]) (lt_of_block HX5.out) HMV5.out).mono ?_;rintro e w6 ⟨pv,rfl,how,hb6⟩;have HPE:Hid (gD ay.name (bI (met++[nm])) g.F9=mR g.F9 nm):=aa (o8 _ (Cx HRE.out) _);rw [HPE.out] at how;have hpn:(mR g.F9 nm).length≤1000:=Nat.le_trans (lq _ _ _) HZ.out.us.vl;have hbo5:=HMO.out.lt;have HPR:Hid (RdS aF 1 (fun b=>b≠bo) w6 [pv] (mR g.F9 nm)):=aa (how.rd fun b e=>by have:=(World.ownsRow.lt how b e).1;show b≠bo;omega);have HNL:Hid (sP g nm=gD az.name (onB (dB g.F9 (mR g.F9 nm))) g.Gb):=aa (o8 _ (fun d=>(FI g.F9 _ d).symm) _);clear how HPE HRE;have HMO6:=aa (HMO.out.block (hb6.block bo hbo5));have HB6:=aa (HB5.out.trans (hb6.mono HB5.out.size));have HBg6:=aa ((hb6.block _ (lt_of_block HBg5.out)).trans HBg5.out)
 have HAP:Hid (∀ i,(dB g.F9 ((mR g.F9 nm).take i)).length≤1000000):=aa fun i=>by
  have h1:=rX HZ.out ((mR g.F9 nm).take i);rw [List.length_take] at h1;have:1000*min i (mR g.F9 nm).length≤1000*1000:=Nat.mul_le_mul_left _ (by omega);omega
 have hbo6:=HMO6.out.lt;clear hb6 HMO HMV5 HX5 HBg5 HB5;generalize hP:mR g.F9 nm=P at *;have HPD:=aa hP;clear hP;obtain ⟨pp,pc,e,hpc1,hpc2⟩:=HPR.out.cap;subst e;have HMW:Hid (bi Tryz.prog 9 w6 bo 0 (onF [])):=aa (HMO6.out.congr fun key _ _=>by unfold onF;split <;> rfl);clear HMO6
 go_upto_region 5 with (fail)
 go_loopw [28] (fun i wr=>∃ k:Nat,k≤P.length∧i=.int .i64 k∧Mod (fun b=>b=bo) w6 wr∧bi Tryz.prog 9 wr bo (dB g.F9 (P.take k)).length (onF (dB g.F9 (P.take k)))) (fun i _=>P.length - (intOf i).toNat)
 case atStart=>exact ⟨0,Nat.zero_le _,rfl,Mod.refl _ _,HMW.out⟩
 case round =>
  clear HMW;obtain ⟨k,hk,rfl,hmd,hmv⟩:=hrel;have HMD:=aa hmd;clear hmd;have HMV:=aa hmv;clear hmv;have HBW:Hid (Below w.heap.size w wr):=aa (HB6.out.trans (HMD.out.below HB6.out.size (fun b e=>by omega)));have HBgW:=aa ((HMD.out.block _ (lt_of_block HBg6.out) (by omega)).trans HBg6.out)
  by_cases hlt:k<P.length
  ·obtain ⟨x,hx⟩:=aj P k hlt
   obtain ⟨b,off,us,rfl,hob,hbw,hul,hvs,hcv⟩:=HPR.out.elem hx;obtain rfl:us=_:=hvs;have q0:=(HMD.out.cell (p:=⟨b,off+k*1+0,none⟩) hbw hob).trans (hcv 0 _ rfl);rw [Nat.mul_one,Nat.add_zero] at q0;have HAS:=aa (xN g.F9 hx);clear hx hcv hul
   have gL:∀ (i:Nat) (z:Value),[.string g.name,.int .u64 g.id,.int .i64 g.seq,.int .i64 g.Gd,.int .i64 g.next,.slice a.tp g.tags.length a.tc,.slice a.dp g.Gb.length a.dc,.slice a.vp g.F9.length a.vc,.slice a.hp g.history.length a.hc][i]?=some z→wr.cell? ⟨w.heap.size,i,none⟩=some z:=fun i z hz=>by
    simp only [World.cell?,HBgW.out];simpa using hz
   have g0:=gL 0 _ rfl;have g1:=gL 1 _ rfl;have g2:=gL 2 _ rfl;have g3:=gL 3 _ rfl;have g4:=gL 4 _ rfl;have g5:=gL 5 _ rfl;have g6:=gL 6 _ rfl;have g7:=gL 7 _ rfl;have g8:=gL 8 _ rfl;clear gL;have HCV:=aa (fA (ok:=fun b=>ok b∧b<w.heap.size) g a x wr ((RdS.moves aN.moves).mv ⟨HBW.out.size,fun b hb ho=>⟨⟨ho,hb⟩,HBW.out.block b hb⟩⟩ HG.out) HZ.out.us.sz.vl HZ.out.us.sz.vz)
   go_wp2_with fail
   clear g0 g1 g2 g3 g4 g5 g6 g7 g8 q0;refine HCV.out.mono ?_;clear HCV;rintro e w7 ⟨u,rfl,hvv,hb7⟩;have HAL:=aa (rV HZ.out x);have HAN:=aa (BP HZ.out x);generalize hv:(aM g.F9 x).getD eY=v at *;have HVX:=aa hv;clear hv;have hwz7:=HMD.out.size;replace hvv:=aN.moves.mv (ok':=fun b=>b≠bo) ⟨Nat.le_refl _,fun b _ ho=>⟨by show b≠bo;rcases ho with ho | ho <;> omega,rfl⟩⟩ hvv
   obtain ⟨tv,sv,rfl,htr,hsr⟩:=hvv;obtain ⟨tp,tc,rfl,_,_⟩:=htr.cap;obtain ⟨sp,sc,rfl,hsc1,hsc2⟩:=hsr.cap;have HMD7:=aa (HMD.out.trans (Mod.of_below (F:=fun _=>False) hb7) (fun _ f=>f.elim));have HMV7:=aa (HMV.out.block (hb7.block bo HMV.out.lt));clear htr hb7 HMV HMD HBW HBgW;have hA:=ae w7 (.cells #[.string v.name,.int .u64 v.id,.bool v.hidden,.bool v.ro,.slice tp v.tags.length tc,.slice sp v.Gf.length sc] 55);have HBv:=aa (heap_alloc_new w7 (.cells #[.string v.name,.int .u64 v.id,.bool v.hidden,.bool v.ro,.slice tp v.tags.length tc,.slice sp v.Gf.length sc] 55));have HMD8:=aa (HMD7.out.trans (Mod.of_below (F:=fun _=>False) hA) (fun _ f=>f.elim));have HMV8:=aa (HMV7.out.block (hA.block bo HMV7.out.lt));have HSR:=aa ((RdS.moves bC.moves).mv (Mv.of hA) hsr);clear hsr hA HMD7 HMV7
   go_upto_region 8 with (fail)
   generalize hW8:World.alloc w7 _=W8 at *;generalize hBv:w7.heap.size=Bv at *;clear hW8;have v5:W8.cell? ⟨Bv,5,none⟩=some (.slice sp v.Gf.length sc):=by simp [World.cell?,HBv.out]
   go_upto_region 9 with (fail)
   clear v5 HBv
   have HSP:Hid (∀ j,(dB g.F9 (P.take k)++bV (v.Gf.take j)).length≤2000000):=aa fun j=>by
    have h1:=HAP.out k
    have h2:(bV (v.Gf.take j)).length≤(bV v.Gf).length:=by
     conv=>rhs;rw [← List.take_append_drop j v.Gf]
     unfold bV;rw [List.flatMap_append,List.length_append];omega
    have h3:=HAL.out;rw [List.length_append];omega
   have HVS0:Hid (bi Tryz.prog 9 W8 bo (dB g.F9 (P.take k)++bV (v.Gf.take 0)).length (onF (dB g.F9 (P.take k)++bV (v.Gf.take 0)))):=aa (by rw [List.take_zero,show bV []=[] from rfl,List.append_nil];exact HMV8.out);clear HMV8
   go_loopw [41] (fun i wi=>∃ j:Nat,j≤v.Gf.length∧i=.int .i64 j∧Mod (fun b=>b=bo) W8 wi∧bi Tryz.prog 9 wi bo (dB g.F9 (P.take k)++bV (v.Gf.take j)).length (onF (dB g.F9 (P.take k)++bV (v.Gf.take j)))) (fun i _=>v.Gf.length - (intOf i).toNat)
   case atStart=>exact ⟨0,Nat.zero_le _,rfl,Mod.refl _ _,HVS0.out⟩
   case round =>
    clear HVS0;obtain ⟨j,hj,rfl,hmd,hmv⟩:=hrel;have HMD:=aa hmd;clear hmd;have HMV:=aa hmv;clear hmv
    by_cases hlt2:j<v.Gf.length
    ·obtain ⟨s,hs⟩:=aj v.Gf j hlt2
     obtain ⟨b2,off2,us2,hsp,hob2,hbw2,hul2,hvs2,hcv2⟩:=HSR.out.elem hs;subst hsp;obtain ⟨av,stv,rfl,har,hst2⟩:=hvs2;obtain ⟨ap,ac,rfl,_,_⟩:=har.cap;obtain ⟨stp,stc,rfl,_,_⟩:=hst2.cap;have hbk2:wr.heap[b2]?=W8.heap[b2]?:=HMD.out.block b2 hbw2 hob2;have q0:=bK hbk2 (hcv2 0 _ rfl);have q1:=ai hbk2 (hcv2 1 _ rfl);have q2:=ai hbk2 (hcv2 2 _ rfl);have q3:=ai hbk2 (hcv2 3 _ rfl);have q4:=ai hbk2 (hcv2 4 _ rfl);have q5:=ai hbk2 (hcv2 5 _ rfl);have q6:=ai hbk2 (hcv2 6 _ rfl);have q7:=ai hbk2 (hcv2 7 _ rfl);have q8:=ai hbk2 (hcv2 8 _ rfl);have q9:=ai hbk2 (hcv2 9 _ rfl);have q10:=ai hbk2 (hcv2 10 _ rfl);have HASN:=aa (o9 hs);have HAN2:=aa (HAN.out s (List.mem_of_getElem? hs));have hale:s.Ga.length≤1000:=by have:=A8 hs;have:=HAL.out;omega
     clear hs hcv2 hul2 hbk2 hst2;have hA:=ae wr (.cells #[.int .i64 s.start,.int .i64 s.length,.int .i64 s.kind,.slice ap s.Ga.length ac,.int .i64 s.chunk,.slice stp s.stale.length stc,.string s.log,.string s.pool,.int .i64 s.device,.int .i64 s.mode,.int .i64 s.done] 79);have HBs:=aa (heap_alloc_new wr (.cells #[.int .i64 s.start,.int .i64 s.length,.int .i64 s.kind,.slice ap s.Ga.length ac,.int .i64 s.chunk,.slice stp s.stale.length stc,.string s.log,.string s.pool,.int .i64 s.device,.int .i64 s.mode,.int .i64 s.done] 79));have HMD2:=aa (HMD.out.trans (Mod.of_below (F:=fun _=>False) hA) (fun _ f=>f.elim));have HMV2:=aa (HMV.out.block (hA.block bo HMV.out.lt));have HAR:=aa ((RdS.moves aQ.moves).mv (Mv.mod HMD2.out (fun b e ho=>ho e)) har);clear har hA HMD HMV
     go_upto_region 11 with (fail)
     clear q0 q1 q2 q3 q4 q5 q6 q7 q8 q9 q10;generalize hW9:World.alloc wr _=W9 at *;generalize hBs:wr.heap.size=Bs at *;clear hW9;have s3:W9.cell? ⟨Bs,3,none⟩=some (.slice ap s.Ga.length ac):=by simp [World.cell?,HBs.out]
     go_upto_region 12 with (fail)
     clear s3 HBs;generalize hAL:dB g.F9 (P.take k)++bV (v.Gf.take j)=AL at *;have hALl:AL.length≤2000000:=by have:=HSP.out j;rw [hAL] at this;exact this
     have HALE:=aa hAL;clear hAL;have HVT0:Hid (bi Tryz.prog 9 W9 bo (AL++s.Ga.take 0).length (onF (AL++s.Ga.take 0))):=aa (by rw [List.take_zero,List.append_nil];exact HMV2.out);clear HMV2
     go_loopw [48] (fun i wi=>∃ m:Nat,m≤s.Ga.length∧i=.int .i64 m∧Mod (fun b=>b=bo) W9 wi∧bi Tryz.prog 9 wi bo (AL++s.Ga.take m).length (onF (AL++s.Ga.take m))) (fun i _=>s.Ga.length - (intOf i).toNat)
     case atStart=>exact ⟨0,Nat.zero_le _,rfl,Mod.refl _ _,HVT0.out⟩
     case round =>
      clear HVT0;obtain ⟨m,hm,rfl,hmd,hmv⟩:=hrel;have HMD:=aa hmd;clear hmd;have HMV:=aa hmv;clear hmv
      by_cases hlt3:m<s.Ga.length
      ·obtain ⟨r,hr⟩:=aj s.Ga m hlt3
       obtain ⟨b3,off3,us3,hsp3,hob3,hbw3,hul3,hvs3,hcv3⟩:=HAR.out.elem hr;subst hsp3;obtain rfl:us3=_:=hvs3;have hbk3:wr.heap[b3]?=W9.heap[b3]?:=HMD.out.block b3 hbw3 hob3;have q0:=bK hbk3 (hcv3 0 _ rfl);have q1:=ai hbk3 (hcv3 1 _ rfl);have q2:=ai hbk3 (hcv3 2 _ rfl);have HTS:=aa (take_snoc' s.Ga m r hr);have hns:=HAN2.out r (List.mem_of_getElem? hr);clear hr hcv3 hul3 hbk3;have hA:=ae wr (.cells #[.bool r.vol,.string r.on,.int .i64 r.start] 60);have HBa:=aa (heap_alloc_new wr (.cells #[.bool r.vol,.string r.on,.int .i64 r.start] 60));have HMD3:=aa (HMD.out.trans (Mod.of_below (F:=fun _=>False) hA) (fun _ f=>f.elim));have HMV3:=aa (HMV.out.block (hA.block bo HMV.out.lt));have hll:(AL++s.Ga.take m).length≤3000000:=by rw [List.length_append,List.length_take];omega
       clear hA HMD HMV
       go_upto_region 14 with (fail)
       clear q0 q1 q2;generalize hW10:World.alloc wr _=W10 at *;generalize hBa:wr.heap.size=Ba at *;clear hW10;have a0:W10.cell? ⟨Ba,0,none⟩=some (.bool r.vol):=by simp [World.cell?,HBa.out]
       have a1:W10.cell? ⟨Ba,1,none⟩=some (.string r.on):=by simp [World.cell?,HBa.out]
       have hmk:=(bi.look HMV3.out oM Tryz.underlying130 (wY W10) (key:=.string r.on) (gG r.on hns)).1;rw [Al] at hmk
       have HST:∀ z:Bool,z=(onB (AL++s.Ga.take m) r.on||!r.vol)→∃ w',(Instr.mapUpdate 130 (.map (some bo)) (.string r.on) (.bool z)).run Tryz.prog W10=.ok () w'∧bi Tryz.prog 9 w' bo (AL++s.Ga.take (m+1)).length (onF (AL++s.Ga.take (m+1)))∧Mod (fun b=>b=bo) W9 w':=fun z hz=>by
        obtain ⟨w',hst,hm',hg',hz'⟩:=bi.store HMV3.out oM Tryz.underlying130 (by unfold maxLen;omega) (key:=.string r.on) (gG r.on hns) (.bool z);refine ⟨w',hst,?_,HMD3.out.trans (Mod.grown hg') (fun i e=>.inl e)⟩;rw [HTS.out,← List.append_assoc,List.length_append];subst hz;exact hm'.congr fun key _ _=>DJ _ r key
       have HSTO:=aa HST;clear HST;generalize hon:onB (AL++s.Ga.take m) r.on=ob at *;have HON:=aa hon;clear hon;cases ob with
       | true =>
        obtain ⟨w',hst,hm',hmod⟩:=HSTO.out true (by simp);have HM':=aa hm';clear hm';have HMOD:=aa hmod;clear hmod;go_wp2;go_roundw
        case rel=>exact ⟨m+1,by omega,by go_num,HMOD.out,HM'.out⟩
        case measure=>simp [intOf];omega
       | false =>
        obtain ⟨w',hst,hm',hmod⟩:=HSTO.out (!r.vol) (by simp);have HM':=aa hm';clear hm';have HMOD:=aa hmod;clear hmod;go_wp2;go_roundw
        case rel=>exact ⟨m+1,by omega,by go_num,HMOD.out,HM'.out⟩
        case measure=>simp [intOf];omega
      ·obtain rfl:m=s.Ga.length:=by omega
       rw [List.take_length] at HMV;have HMVN:Hid (bi Tryz.prog 9 wr bo (dB g.F9 (P.take k)++bV (v.Gf.take (j+1))).length (onF (dB g.F9 (P.take k)++bV (v.Gf.take (j+1))))):=aa (by rw [HASN.out,← List.append_assoc,HALE.out];exact HMV.out);have HMDN:=aa (HMD2.out.trans HMD.out (fun i e=>.inl e));clear HMV HMD;go_wp2;go_roundw
       case rel=>exact ⟨j+1,by omega,by go_num,HMDN.out,HMVN.out⟩
       case measure=>simp [intOf];omega
    ·obtain rfl:j=v.Gf.length:=by omega
     rw [List.take_length] at HMV;have HMVN:Hid (bi Tryz.prog 9 wr bo (dB g.F9 (P.take (k+1))).length (onF (dB g.F9 (P.take (k+1))))):=aa (by rw [HAS.out];exact HMV.out);have HMDN:=aa (HMD8.out.trans HMD.out (fun i e=>.inl e));clear HMV HMD;go_wp2;go_roundw
     case rel=>exact ⟨k+1,by omega,by go_num,HMDN.out,HMVN.out⟩
     case measure=>simp [intOf];omega
  ·obtain rfl:k=P.length:=by omega
   rw [List.take_length] at HMV;generalize dB g.F9 P=AL at *;clear HPR HPD HAP;have HDR:=aa ((RdS.moves aO.moves).mv (ok':=fun b=>ok b∧b<w.heap.size) ⟨HBW.out.size,fun b hb ho=>⟨⟨ho,hb⟩,HBW.out.block b hb⟩⟩ HD.out);have g6:wr.cell? ⟨w.heap.size,6,none⟩=some (.slice a.dp g.Gb.length a.dc):=by simp [World.cell?,HBgW.out]
   go_upto_region 20 with (fail)
   clear g6;obtain ⟨W11,hW11⟩:∃ W,W=wr:=⟨_,rfl⟩;subst hW11;have hdca1:=hdca.1;have hdca2:=hdca.2;clear hdca;generalize hdp:a.dp=dpx at *;generalize hdc:a.dc=dcx at *;clear hdp hdc;have hwz8:=HBW.out.size
   go_loopw [15,70] (fun l i wi=>∃ m:Nat,m≤g.Gb.length∧i=.int .i64 m∧dF wi W11.heap.size l (gD az.name (onB AL) (g.Gb.take m))∧Below W11.heap.size W11 wi) (fun _ i _=>g.Gb.length - (intOf i).toNat)
   case atStart=>exact ⟨0,Nat.zero_le _,rfl,dF.nil _ _,Below.refl _ _⟩
   case round =>
    obtain ⟨m,hm,rfl,hown,hB⟩:=hrel;have HOW:=aa hown;clear hown;have HB:=aa hB;clear hB;have hpl:=lq az.name (onB AL) (g.Gb.take m);rw [List.length_take] at hpl
    by_cases hlt4:m<g.Gb.length
    ·obtain ⟨d,hd⟩:=aj g.Gb m hlt4
     obtain ⟨b,off,us,hsp,hob,hbw,hul,hvs,hcv⟩:=HDR.out.elem hd;have hns:=HZ.out.dn d (List.mem_of_getElem? hd);obtain ⟨tv,rfl,htr⟩:=hvs;obtain ⟨tp,tc,rfl,_,_⟩:=htr.cap;subst hsp;have hbk:wr.heap[b]?=W11.heap[b]?:=HB.out.block b hbw;have q0:=bK hbk (hcv 0 _ rfl);have q1:=ai hbk (hcv 1 _ rfl);have q2:=ai hbk (hcv 2 _ rfl);have q3:=ai hbk (hcv 3 _ rfl);have q4:=ai hbk (hcv 4 _ rfl);have q5:=ai hbk (hcv 5 _ rfl);have q6:=ai hbk (hcv 6 _ rfl);have HPS:=aa (rJ az.name (onB AL) hd);clear hd hcv hul hbk htr;have hA:=ae wr (.cells #[.string d.name,.int .u64 d.id,.int .i64 d.first,.int .i64 d.Gc,.bool d.closed,.bool d.missing,.slice tp d.tags.length tc] 47);have HBd:=aa (heap_alloc_new wr (.cells #[.string d.name,.int .u64 d.id,.int .i64 d.first,.int .i64 d.Gc,.bool d.closed,.bool d.missing,.slice tp d.tags.length tc] 47));have HB2:=aa (HB.out.trans (hA.mono HB.out.size));have HOW2:=aa (HOW.out.below hA);clear hA
     go_upto_region 22 with (fail)
     clear q0 q1 q2 q3 q4 q5 q6;generalize hW12:World.alloc wr _=W12 at *;generalize hBd:wr.heap.size=Bd at *;clear hW12 HB HOW;have d0:W12.cell? ⟨Bd,0,none⟩=some (.string d.name):=by simp [World.cell?,HBd.out]
     have hwz12:=HB2.out.size;have hmk:=(bi.look (HMV.out.block (HB2.out.block bo HMV.out.lt)) oM Tryz.underlying130 (wY W12) (key:=.string d.name) (gG d.name hns)).1;rw [Al] at hmk;obtain ⟨lp,lc,e,_,_⟩:=(HOW2.out.rd (ok:=fun _=>True) (fun _ _=>trivial)).cap;subst e;have HCT:=aa (eT (ok:=fun _=>True) _ d.name _ W12 (HOW2.out.rd (ok:=fun _=>True) (fun _ _=>trivial)) (by omega));generalize hPL:gD az.name (onB AL) (g.Gb.take m)=pl at *;have HPL:=aa hPL;clear hPL;cases hh:onB AL d.name with
     | false =>
      rw [hh] at hmk HPS;rw [Bool.false_and,if_neg (by simp)] at HPS;have HH:=aa hh;clear hh;clear HCT;go_wp2;go_roundw
      case rel=>exact ⟨m+1,by omega,by go_num,by rw [HPS.out];exact HOW2.out,HB2.out⟩
      case measure=>simp [intOf];omega
     | true =>
      rw [hh] at hmk HPS;rw [Bool.true_and] at HPS;have HH:=aa hh;clear hh;cases hc:bI pl d.name with
      | true =>
       rw [hc] at HCT HPS;rw [if_neg (by simp)] at HPS;have HC:=aa hc;clear hc
       go_wp2_with (refine HCT.out.mono ?_;rintro e w3 ⟨rfl,rfl⟩)
       go_roundw
       case rel=>exact ⟨m+1,by omega,by go_num,by rw [HPS.out];exact HOW2.out,HB2.out⟩
       case measure=>simp [intOf];omega
      | false =>
       rw [hc] at HCT HPS;rw [if_pos (by simp)] at HPS;have HC:=aa hc;clear hc
       go_wp2_with (first | (refine HCT.out.mono ?_;rintro e w3 ⟨rfl,rfl⟩) | (at_builtin;refine dz rfl _ _ rfl W11.heap.size _ pl d.name rfl ?c1 W12.heap.size 1 rfl ?c2 ?c3 ?c4 ?_))
       case c1=>exact HOW2.out.alloc _
       case c2=>exact aD rfl rfl
       case c3=>omega
       case c4=>simp;omega
       intro v' w13 hown1 hb1 _;have HB4:=aa ((HB2.out.alloc hwz12 _).trans hb1);have HOW4:=aa hown1;clear hb1 hown1;go_wp2;go_roundw
       case rel=>exact ⟨m+1,by omega,by go_num,by rw [HPS.out];exact HOW4.out,HB4.out⟩
       case measure=>simp [intOf];omega
    ·obtain rfl:m=g.Gb.length:=by omega
     rw [List.take_length] at HOW;have HBF:Hid (Below w.heap.size w wr):=aa (HBW.out.trans (HB.out.mono hwz8));go_wp2;go_ret;exact ⟨_,rfl,by rw [HNL.out];exact HOW.out.mono hwz8,HBF.out⟩
end Go.Proofs.YtjdfihglehfelaaGreatDoor
namespace Go.Proofs.YtjdfihglehfelaaGreatDoor
open Go.RowKit Go.Maps Go.Shelf
def wiB (n m:Int):Bool:=decide (1≤n)&&decide (n≤m)
def Dr (r:aY):Bool:=wiB r.Gi 6&&wiB r.Gh 6&&decide (r.Gi*r.Gh≤6)&&wiB r.Gc 4096
def clB (r:aY):Bool:=r.Gg == 2||r.Gg == 3
def xM (g:af)(r:aY):Bool:=if r.near.toList.isEmpty then !clB r else (aM g.F9 r.near).isSome
def eu (s:ByteArray):Bool:=s.toList.isEmpty||mr s
def yZ (g:af)(r:aY):Int:=if Dr r=false then 1 else if wiB r.Gg 5=false then 17 else if xM g r=false then 12 else if (eu r.tag&&eu r.sep)=false then 2 else 0
def kP (g:af)(r:aY):Int:=if (pM g).2=0 then yZ g r else (pM g).2
theorem uT (n m:Int)(w:World) :
  Calls Tryz.prog 96 #[.int .i64 n,.int .i64 m] w fun e w'=>e=.returned (.bool (wiB n m))∧w=w':=by
 go_enter Tryz.func96,Tryz.ntmps96
 by_cases h1:1≤n
 ·by_cases h2:n≤m
  ·go_wp2
   go_ret;exact ⟨ah (by simp [wiB,h1,h2]),rfl⟩
  ·go_wp2
   go_ret;exact ⟨ah (by simp [wiB,h2]),rfl⟩
 ·go_wp2
  go_ret;exact ⟨ah (by rw [wiB,decide_eq_false (by omega:¬ 1≤n)];rfl),rfl⟩
theorem ry (s:ByteArray)(w:World)(hs:s.size≤9223372036854775807):Calls Tryz.prog 97 #[.string s] w fun e w'=>e=.returned (.bool (mr s))∧Below w.heap.size w w':=Af s w hs
structure jF (w:World)(Bg Br:Nat)(g:af)(a:bN)(r:aY):Prop where
 g:w.heap[Bg]?=some (.cells #[.string g.name,.int .u64 g.id,.int .i64 g.seq,.int .i64 g.Gd,.int .i64 g.next,.slice a.tp g.tags.length a.tc,.slice a.dp g.Gb.length a.dc,.slice a.vp g.F9.length a.vc,.slice a.hp g.history.length a.hc] 31 (0,0))
 r:w.heap[Br]?=some (.cells #[.int .i64 r.Gi,.int .i64 r.Gh,.int .i64 r.Gc,.int .i64 r.Gg,.string r.tag,.string r.near,.string r.sep] 35 (0,0))
theorem jF.below {w w':World}{Bg Br:Nat}{g:af}{a:bN}{r:aY}(h:jF w Bg Br g a r)(hb:Below w.heap.size w w'):jF w' Bg Br g a r :=
 ⟨(hb.block _ (lt_of_block h.g)).trans h.g,(hb.block _ (lt_of_block h.r)).trans h.r⟩
theorem jF.gc {w:World}{Bg Br:Nat}{g:af}{a:bN}{r:aY}(h:jF w Bg Br g a r)(i:Nat)(z:Value)(hz:[.string g.name,.int .u64 g.id,.int .i64 g.seq,.int .i64 g.Gd,.int .i64 g.next,.slice a.tp g.tags.length a.tc,.slice a.dp g.Gb.length a.dc,.slice a.vp g.F9.length a.vc,.slice a.hp g.history.length a.hc][i]?=some z):w.cell? ⟨Bg,i,none⟩=some z:=by
 simp only [World.cell?,h.g];simpa using hz
theorem jF.rc {w:World}{Bg Br:Nat}{g:af}{a:bN}{r:aY}(h:jF w Bg Br g a r)(i:Nat)(z:Value)(hz:[.int .i64 r.Gi,.int .i64 r.Gh,.int .i64 r.Gc,.int .i64 r.Gg,.string r.tag,.string r.near,.string r.sep][i]?=some z):w.cell? ⟨Br,i,none⟩=some z:=by
 simp only [World.cell?,h.r];simpa using hz
def FY (n:Int)(w:World)(e:Ending)(w':World):Prop:=e=.returned (.int .i64 n)∧Below w.heap.size w w'
attribute [local go_sem] Oper.semAt_some
theorem Ew (name:ByteArray)(id seq ext nx:Int)(tp dp vp hp:Option Addr)(tl tc dl dc vl vc hl hc:Nat)(w:World) :
  Calls Tryz.prog 163 #[.agg #[.string name,.int .u64 id,.int .i64 seq,.int .i64 ext,.int .i64 nx,.slice tp tl tc,.slice dp dl dc,.slice vp vl vc,.slice hp hl hc]] w fun e w'=>e=.returned (.func (.func 200) #[] #[.pointer (some ⟨w.heap.size,0,none⟩)])∧w'=w.alloc (.cells #[.string name,.int .u64 id,.int .i64 seq,.int .i64 ext,.int .i64 nx,.slice tp tl tc,.slice dp dl dc,.slice vp vl vc,.slice hp hl hc] 31):=by
 go_enter Tryz.func163,Tryz.ntmps163;go_wp2;go_ret;exact ⟨rfl,rfl⟩
theorem xu {W W':World}{row:Option Nat}{B k:Nat}{a:Array Value}{b:TypeId}{c:Nat × Nat}(hg:W.grownBy W' row)(hr:∀ r,row=some r→B≤r∧∃ o:Obj,W.heap[r]?=some o∧o.isCells=false)(h:W.heap[k]?=some (.cells a b c)):W'.heap[k]?=some (.cells a b c) :=
 (hg.block k (lt_of_block h) (fun e=>by
  obtain ⟨_,o,ho,hc⟩:=hr k e.symm;rw [h] at ho;injection ho with ho
  subst ho
  cases hc)).trans h
theorem keepR {W W':World}{row:Option Nat}{B B' sz n:Nat}{t:TypeId}{v:Value}{xs:List Value}(hg:W.grownBy W' row)(hr:∀ r,row=some r→B≤r∧∃ o:Obj,W.heap[r]?=some o∧o.isCells=false)(h:W.ownsRow B' t sz v n xs):W'.ownsRow B' t sz v n xs:=by
 refine aC h fun k e=>?_;rcases h.2 with ⟨rfl,_⟩ | ⟨g,cap,cur,rfl,_,hgg,_⟩
 ·cases e
 ·obtain rfl:g=k:=by injection e
  exact (xu hg hr hgg).trans hgg.symm
theorem DZ {F:Fence}{n:Nat}{P:Program}{ops:Array Oper}{Q:Exit→Act→World→Prop}{o:Oper}{l:List Oper}{a:Act}{w:World}(h:Hid (wpListIn F n P ops Q (o :: l) a w)):wpListIn F n P ops Q (o :: l) a w:=h.out
end Go.Proofs.YtjdfihglehfelaaGreatDoor

namespace Go.Proofs.YtjdfihglehfelaaGreatDoor
open Go.RowKit
def Ey (w:World)(v:Value)(ls:List (List (Int × Int))):Prop :=
 ∃ g cap,v=.slice (some ⟨g,0,none⟩) ls.length cap∧ls.length≤cap∧cap≤9223372036854775807∧g<w.heap.size∧∀ (i:Nat) (l:List (Int × Int)),ls[i]?=some l→∃ u,w.cell? ⟨g,i,none⟩=some u∧RdR w u l
theorem xZ (ls:List (List (Int × Int)))(k:Nat)(l:List (Int × Int))(h:ls[k]?=some l)(hv:dI l=false):ls.all dI=false:=by
 rw [List.all_eq_false];exact ⟨l,List.mem_of_getElem? h,by simp [hv]⟩
theorem BN (ls:List (List (Int × Int)))(k:Nat)(l:List (Int × Int))(h:ls[k]?=some l)(ha:(ls.take k).all dI=true)(hv:dI l=true):(ls.take (k+1)).all dI=true:=by
 rw [take_snoc' ls k l h,List.all_append,ha];simp [hv]
theorem qK (ls:List (List (Int × Int)))(v:Value)(w:World)(hr:Ey w v ls) :
  Calls Tryz.prog 166 #[v] w fun e w'=>e=.returned (.bool (ls.all dI))∧Below w.heap.size w w':=by
 obtain ⟨g,cap,rfl,hlc,hcap,hg,hc⟩:=hr;go_enter Tryz.func166,Tryz.ntmps166;go_wp2
 go_loopw [9] (fun i wr=>∃ k:Nat,k≤ls.length∧i=.int .i64 k∧(ls.take k).all dI=true∧Below w.heap.size w wr) (fun i _=>ls.length - (intOf i).toNat)
 case atStart=>exact ⟨0,Nat.zero_le _,rfl,rfl,Below.refl _ _⟩
 case round =>
  obtain ⟨k,hk,rfl,hall,hb⟩:=hrel;have HALL:=aa hall;clear hall
  by_cases hlt:k<ls.length
  ·obtain ⟨l,hl⟩:=aj ls k hlt
   obtain ⟨u,hu,hru⟩:=hc k l hl;have hcell:wr.cell? ⟨g,k,none⟩=some u:=(hb.cell (p:=⟨g,k,none⟩) hg).trans hu;obtain ⟨p,cap2,rfl,hlc2,hcap2,hp2⟩:=hru.below hb;have HL:=aa hl;clear hc hu hru hl;go_wp2;obtain ⟨wo,rfl⟩:∃ wo:World,wo=wr:=⟨_,rfl⟩
   go_loopw [15] (fun i wr=>∃ j:Nat,j≤l.length∧i=.int .i64 j∧dI (l.take j)=true∧Below wo.heap.size wo wr) (fun i _=>l.length - (intOf i).toNat)
   case atStart=>exact ⟨0,Nat.zero_le _,rfl,rfl,Below.refl _ _⟩
   case round =>
    obtain ⟨j,hj,rfl,hall2,hb2⟩:=hrel;have HALL2:=aa hall2;clear hall2
    by_cases hlt2:j<l.length
    ·obtain ⟨b,off,rfl,hbs,hc⟩:=hp2 (by omega)
     obtain ⟨x,hx⟩:=aj l j hlt2;have hcc:=(hc.below hb2 hbs) j x hx;have hc1:=hcc.1;have hc2:=hcc.2;have HX:=aa hx;clear hc hp2 hcc hx
     go_wp2_with fail
     refine (AQ _ _ _).mono ?_;rintro e w1 ⟨rfl,hb1⟩;have hb3:Below wo.heap.size wo w1:=bel (hb2.alloc hb2.size _) hb1;cases hv:nT x.1 x.2
     ·go_wp2
      go_ret;exact ⟨ah (xZ ls k l HL.out (zA l j x HX.out hv)).symm,bel hb hb3⟩
     ·go_wp2
      go_roundw
      case rel=>exact ⟨j+1,by omega,by go_num,Cm l j x HX.out HALL2.out hv,hb3⟩
      case measure=>simp [intOf];omega
    ·go_wp2
     go_roundw
     case rel=>exact ⟨k+1,by omega,by go_num,BN ls k l HL.out HALL.out (Ce l j (by omega) HALL2.out),bel hb hb2⟩
     case measure=>simp [intOf];omega
  ·go_wp2
   go_ret;refine ⟨ah ?_,hb⟩;have:=HALL.out;rw [List.take_of_length_le (by omega)] at this;exact this.symm
theorem Cz (w:World)(v:Value)(l:List (Int × Int))(t:TypeId)(h:RdR w v l):Ey (w.alloc (.cells #[v] t)) (.slice (some ⟨w.heap.size,0,none⟩) 1 1) [l]:=by
 refine ⟨w.heap.size,1,rfl,by simp,by omega,by simp,fun i l' hi=>?_⟩
 match i,hi with
 | 0,hi =>
  simp at hi;subst hi;exact ⟨v,by go_simp,h.below ((Below.refl _ _).alloc (Nat.le_refl _) _)⟩
 | i+1,hi=>simp at hi
theorem xK (w:World)(v1 v2:Value)(l1 l2:List (Int × Int))(t:TypeId)(h1:RdR w v1 l1)(h2:RdR w v2 l2):Ey (w.alloc (.cells #[v1,v2] t)) (.slice (some ⟨w.heap.size,0,none⟩) 2 2) [l1,l2]:=by
 refine ⟨w.heap.size,2,rfl,by simp,by omega,by simp,fun i l' hi=>?_⟩
 match i,hi with
 | 0,hi =>
  simp at hi;subst hi;exact ⟨v1,by go_simp,h1.below ((Below.refl _ _).alloc (Nat.le_refl _) _)⟩
 | 1,hi =>
  simp at hi;subst hi;exact ⟨v2,by go_simp,h2.below ((Below.refl _ _).alloc (Nat.le_refl _) _)⟩
 | i+2,hi=>simp at hi
def zz (w:World)(S:Int→Prop)(N:Nat)(e:Ending)(w':World):Prop :=
 ∃ v x,e=.returned (.tuple #[v,.int .i64 0])∧bM w' w.heap.size v x∧iE x S∧x.length≤N∧Below w.heap.size w w'
theorem tJ (l:List (Int × Int))(v:Value)(w:World)(hr:RdR w v l)(hval:dI l=true)(hlen:l.length≤10000000) :
  Calls Tryz.prog 110 #[v] w (zz w (Mem l) l.length):=by
 have HV:=aa hval;clear hval;have hr0:=hr;obtain ⟨p0,cap0,rfl,_⟩:=hr0;go_enter Tryz.func110,Tryz.ntmps110
 go_wp2_with fail
 refine (qK [l] _ _ (Cz w _ l _ hr)).mono ?_;rintro e w1 ⟨rfl,hb1⟩;have hb01:Below w.heap.size w w1:=bel ((Below.refl _ _).alloc (Nat.le_refl _) _) hb1;have hv:[l].all dI=true:=by simp [HV.out]
 go_wp2_with fail
 refine (jJ l _ w1 (hr.below hb01) HV.out hlen).mono ?_;rintro e w2 ⟨v2,x,rfl,ho,hx,hxl,hb2⟩;go_wp2;go_ret2;exact ⟨v2,x,rfl,ho.mono hb01.size,hx,hxl,bel hb01 hb2⟩
theorem El {x l:List (Int × Int)}(hx:iE x (Mem l))(hv:dI l=true):∀ p∈x,0≤p.1∧1≤p.2∧p.1+p.2≤1073741824:=fun p hp=>by
 have h1:=hx.1.1 p hp;obtain ⟨a,ha,ha1,_⟩:=(hx.2 p.1).1 ⟨p,hp,by omega,by omega⟩;obtain ⟨b,hb,_,hb2⟩:=(hx.2 (p.1+p.2 - 1)).1 ⟨p,hp,by omega,by omega⟩;have:=iF hv a ha;have:=iF hv b hb;omega
end Go.Proofs.YtjdfihglehfelaaGreatDoor

