/- Lemmas: ModF, ModG. -/
import Derived.Test.YtjdfihglehfelaaGreatDoorPk17
import Derived.Test.YtjdfihglehfelaaGreatDoorPk07
set_option maxRecDepth 100000
set_option maxHeartbeats 32000000
set_option linter.all false
namespace Go.Proofs.YtjdfihglehfelaaGreatDoor
open Go.RowKit Go.Maps Go.Shelf
def jw (g:af)(s:aB):Bool:=s.Ga.all (fun r=>r.vol||(bH g.Gb r.on).isSome)&&(dD s true).all (fun nm=>(aM g.F9 nm).isSome)
theorem oL (s:aB)(pool:Bool)(h:s.Ga.length≤1000000):(dD s pool).length≤1000002:=by
 unfold dD;have:=List.length_filter_le (·.vol) s.Ga;rw [List.length_append,List.length_append,List.length_map];cases s.log.toList.isEmpty <;> cases (pool&&s.kind == 6) <;> simp <;> omega
def bX (w:World)(bc sm:Nat)(g:af)(a:bN):Prop:=w.heap[bc]?=some (.cells #[.string g.name,.int .u64 g.id,.int .i64 g.seq,.int .i64 g.Gd,.int .i64 g.next,.slice a.tp g.tags.length a.tc,.slice a.dp g.Gb.length a.dc,.slice a.vp g.F9.length a.vc,.slice a.hp g.history.length a.hc,.map (some sm)] 141 (0,0))
theorem bX.cells {w:World}{bc sm:Nat}{g:af}{a:bN}(h:bX w bc sm g a):w.cell? ⟨bc,0,none⟩=some (.string g.name)∧w.cell? ⟨bc,1,none⟩=some (.int .u64 g.id)∧w.cell? ⟨bc,2,none⟩=some (.int .i64 g.seq)∧w.cell? ⟨bc,3,none⟩=some (.int .i64 g.Gd)∧w.cell? ⟨bc,4,none⟩=some (.int .i64 g.next) ∧
  w.cell? ⟨bc,5,none⟩=some (.slice a.tp g.tags.length a.tc)∧w.cell? ⟨bc,6,none⟩=some (.slice a.dp g.Gb.length a.dc)∧w.cell? ⟨bc,7,none⟩=some (.slice a.vp g.F9.length a.vc)∧w.cell? ⟨bc,8,none⟩=some (.slice a.hp g.history.length a.hc):=by
 have h:w.heap[bc]?=_:=h;exact ⟨by simp [World.cell?,h],by simp [World.cell?,h],by simp [World.cell?,h],by simp [World.cell?,h],by simp [World.cell?,h],by simp [World.cell?,h],by simp [World.cell?,h],by simp [World.cell?,h],by simp [World.cell?,h]⟩
theorem vC {ok:Nat→Prop}(g:af)(a:bN)(bc:Nat)(s:aB)(u:List Value)(w:World)(hck:gY w bc g a)(hg:dN ok w g a)(hz:GSz g)(hv:bC ok w u s)(ha:s.Ga.length≤1000000) :
  Calls Tryz.prog 143 #[.pointer (some ⟨bc,0,none⟩),.agg u.toArray] w fun e w'=>e=.returned (.bool (jw g s))∧Below w.heap.size w w':=by
 have hbcl:=hck.lt;have HV:=aa hv;obtain ⟨av,stv,rfl,har,hst⟩:=hv;obtain ⟨ap,ac,rfl,hac1,hac2⟩:=har.cap;obtain ⟨stp,stc,rfl,hsc1,hsc2⟩:=hst.cap;have HAR:=aa har;clear har hst;obtain ⟨sm,hblk,hmp⟩:=hck;have HCB:Hid (bX w bc sm g a):=aa hblk;clear hblk hmp;have HG:=aa hg;clear hg;have HZ:=aa hz;clear hz;have HB1:=aa (ae w (.cells #[.int .i64 s.start,.int .i64 s.length,.int .i64 s.kind,.slice ap s.Ga.length ac,.int .i64 s.chunk,.slice stp s.stale.length stc,.string s.log,.string s.pool,.int .i64 s.device,.int .i64 s.mode,.int .i64 s.done] 79));have HF:Hid (jw g s=_):=aa (jw.eq_1 g s);go_enter Tryz.func143,Tryz.ntmps143;go_wp2
 go_loopw [16] (fun i wr=>∃ k:Nat,k≤s.Ga.length∧i=.int .i64 k∧(∀ j r,j<k→s.Ga[j]?=some r→(r.vol||(bH g.Gb r.on).isSome)=true)∧Below w.heap.size w wr∧wr.heap[w.heap.size]?=some (.cells #[.int .i64 s.start,.int .i64 s.length,.int .i64 s.kind,.slice ap s.Ga.length ac,.int .i64 s.chunk,.slice stp s.stale.length stc,.string s.log,.string s.pool,.int .i64 s.device,.int .i64 s.mode,.int .i64 s.done] 79 (0,0))) (fun i _=>s.Ga.length - (intOf i).toNat)
 case atStart=>exact ⟨0,Nat.zero_le _,rfl,fun j r hj=>by omega,HB1.out,heap_alloc_new w _⟩
 case round =>
  obtain ⟨k,hk,rfl,hall,hB,hbx⟩:=hrel;have HALL:=aa hall;clear hall;have HBX:=aa hbx;clear hbx
  by_cases hlt:k<s.Ga.length
  ·obtain ⟨r,hr⟩:=aj s.Ga k hlt
   obtain ⟨b,off,us,rfl,_,hbw,hul,hvs,hcv⟩:=HAR.out.elem hr;obtain rfl:us=_:=hvs;have hbk:wr.heap[b]?=w.heap[b]?:=hB.block b hbw;have q0:=bK hbk (hcv 0 _ rfl);have q1:=ai hbk (hcv 1 _ rfl);have q2:=ai hbk (hcv 2 _ rfl);have HR:=aa hr;clear hr;clear hcv hul hbk
   go_upto_region 4 with (fail)
   clear q0 q1 q2;have HSB:=aa (heap_alloc_new wr (.cells #[.bool r.vol,.string r.on,.int .i64 r.start] 60));have HB5:=aa (hB.trans ((ae wr (.cells #[.bool r.vol,.string r.on,.int .i64 r.start] 60)).mono hB.size));have HBX5:=aa ((Below.heap_alloc wr (.cells #[.bool r.vol,.string r.on,.int .i64 r.start] 60) _ (lt_of_block HBX.out)).trans HBX.out);have hwz:=hB.size;generalize hW5:World.alloc wr _=W5 at *;generalize hBs:wr.heap.size=Bs at *;clear hW5;refine sM (ok:=ok) _ _ _ _ _ _ _ _ _ _ _ _ _ _ _ _ _ _ _ _ _ _ _ _ _ _ _ _ _ _ _ _ _ _ _ _ _ _ _ _ _ _ _ _ _ _ _ _ _ _ _ _ _ _ _ _ W5 g a bc sm Bs r.on ((HB5.out.block bc hbcl).trans HCB.out) (by simp [World.cell?,HSB.out]) (lt_of_block HSB.out) (HG.out.mv (Mv.of HB5.out)) HZ.out _ _ rfl rfl (aa ?_) (fun _ _ _ _ _ h=>h);intro tp tc b7 W7 hb7 hbz _ _;have HB7:=aa (HB5.out.trans (hb7.mono HB5.out.size));have HBX7:=aa ((hb7.block _ (lt_of_block HBX5.out)).trans HBX5.out);have hsb7:=(hb7.block _ (lt_of_block HSB.out)).trans HSB.out;have v0:W7.cell? ⟨Bs,0,none⟩=some (.bool r.vol):=by simp [World.cell?,hsb7]
   clear hb7 hbz hsb7 HSB HB5 HBX5
   have HBAD:Hid ((r.vol||(bH g.Gb r.on).isSome)=false→jw g s=false):=aa fun h=>by
    rw [HF.out,Bool.and_eq_false_iff];refine .inl ?_;rw [List.all_eq_false];exact ⟨r,List.mem_of_getElem? HR.out,by simp [h]⟩
   have HGOOD:Hid ((r.vol||(bH g.Gb r.on).isSome)=true→∀ j y,j<k+1→s.Ga[j]?=some y→(y.vol||(bH g.Gb y.on).isSome)=true):=aa fun h j y hj hy=>by
    by_cases hjk:j=k
    ·subst hjk
     rw [HR.out] at hy;cases hy
     exact h
    ·exact HALL.out j y (by omega) hy
   generalize hfd:(bH g.Gb r.on).isSome=fd at *;generalize hrv:r.vol=rv at *;clear hfd hrv;cases rv with
   | true =>
    go_wp2;go_roundw
    case rel=>exact ⟨k+1,by omega,by go_num,HGOOD.out (by first | rfl | trivial),HB7.out,HBX7.out⟩
    case measure=>simp [intOf];omega
   | false =>
    cases fd with
    | true =>
     go_wp2;go_roundw
     case rel=>exact ⟨k+1,by omega,by go_num,HGOOD.out (by first | rfl | trivial),HB7.out,HBX7.out⟩
     case measure=>simp [intOf];omega
    | false =>
     go_wp2;go_ret;exact ⟨ah (HBAD.out (by first | rfl | trivial)).symm,HB7.out⟩
  ·have HA1:Hid (s.Ga.all (fun r=>r.vol||(bH g.Gb r.on).isSome)=true):=aa (by
    rw [List.all_eq_true];intro r hr;obtain ⟨j,hj⟩:=List.getElem?_of_mem hr
    exact HALL.out j r (by have:=(List.getElem?_eq_some_iff.1 hj).1;omega) hj)
   rw [HA1.out,Bool.true_and] at HF
   have yL:∀ (j:Nat) (z:Value),[.int .i64 s.start,.int .i64 s.length,.int .i64 s.kind,.slice ap s.Ga.length ac,.int .i64 s.chunk,.slice stp s.stale.length stc,.string s.log,.string s.pool,.int .i64 s.device,.int .i64 s.mode,.int .i64 s.done][j]?=some z→wr.cell? ⟨w.heap.size,j,none⟩=some z:=fun j z hz=>by
    simp only [World.cell?,HBX.out];simpa using hz
   have y0:=yL 0 _ rfl;have y1:=yL 1 _ rfl;have y2:=yL 2 _ rfl;have y3:=yL 3 _ rfl;have y4:=yL 4 _ rfl;have y5:=yL 5 _ rfl;have y6:=yL 6 _ rfl;have y7:=yL 7 _ rfl;have y8:=yL 8 _ rfl;have y9:=yL 9 _ rfl;have y10:=yL 10 _ rfl;have HWR:=aa hB
   go_wp2_with fail
   clear y0 y1 y2 y3 y4 y5 y6 y7 y8 y9 y10 yL;refine (kN (ok:=ok) s true _ _ (bC.moves.mv (Mv.of HWR.out) HV.out) ha).mono ?_;rintro e w3 ⟨uv,rfl,how,hb3⟩;have hrd:=how.rd (ok:=fun _=>True) (fun _ _=>trivial);obtain ⟨up,uc,rfl,huc1,huc2⟩:=hrd.cap;have HRD:=aa hrd;clear hrd how;have HB3:=aa (HWR.out.trans (hb3.mono HWR.out.size));clear hb3;have hul:(dD s true).length≤1000002:=oL s true ha;generalize hL:dD s true=L at *;clear hL;go_wp2
   go_loopw [41] (fun i wr=>∃ k:Nat,k≤L.length∧i=.int .i64 k∧(∀ j x,j<k→L[j]?=some x→(aM g.F9 x).isSome=true)∧Below w3.heap.size w3 wr) (fun i _=>L.length - (intOf i).toNat)
   case atStart=>exact ⟨0,Nat.zero_le _,rfl,fun j r hj=>by omega,Below.refl _ _⟩
   case round =>
    obtain ⟨k,hk,rfl,hall,hB⟩:=hrel;have HALL2:=aa hall;clear hall
    by_cases hlt:k<L.length
    ·obtain ⟨x,hx⟩:=aj L k hlt
     obtain ⟨b,off,us,rfl,_,hbw,hul',hvs,hcv⟩:=HRD.out.elem hx;obtain rfl:us=_:=hvs;have q0:=(hB.cell (p:=⟨b,off+k*1+0,none⟩) hbw).trans (hcv 0 _ rfl);rw [Nat.mul_one,Nat.add_zero] at q0;have HX:=aa hx;clear hx;have HBW:=aa (HB3.out.trans (hB.mono HB3.out.size));obtain ⟨g0,g1,g2,g3,g4,g5,g6,g7,g8⟩:=bX.cells (sm:=sm) ((HBW.out.block bc hbcl).trans HCB.out);clear hcv hul'
     go_wp2_with fail
     clear g0 g1 g2 g3 g4 g5 g6 g7 g8;refine (fA (ok:=ok) g a x _ (HG.out.mv (Mv.of HBW.out)).F9 HZ.out.vl HZ.out.vz).mono ?_;rintro e w5 ⟨u5,rfl,⟨t5,s5,rfl,ht5,hs5⟩,hb5⟩;obtain ⟨tp5,tc5,rfl,_,_⟩:=ht5.cap;obtain ⟨sp5,sc5,rfl,_,_⟩:=hs5.cap;clear ht5 hs5;have hB5:Below w3.heap.size w3 w5:=hB.trans (hb5.mono hB.size);have HB5:=aa hB5
     have HBAD:Hid ((aM g.F9 x).isSome=false→jw g s=false):=aa fun h=>by
      rw [HF.out,List.all_eq_false];exact ⟨x,List.mem_of_getElem? HX.out,by simp [h]⟩
     have HGOOD:Hid ((aM g.F9 x).isSome=true→∀ j y,j<k+1→L[j]?=some y→(aM g.F9 y).isSome=true):=aa fun h j y hj hy=>by
      by_cases hjk:j=k
      ·subst hjk
       rw [HX.out] at hy;cases hy
       exact h
      ·exact HALL2.out j y (by omega) hy
     generalize hfd:(aM g.F9 x).isSome=fd at *;generalize (aM g.F9 x).getD eY=vx at *;clear hfd hb5;cases fd with
     | true =>
      go_wp2;go_roundw
      case rel=>exact ⟨k+1,by omega,by go_num,HGOOD.out (by first | rfl | trivial),HB5.out.alloc HB5.out.size _⟩
      case measure=>simp [intOf];omega
     | false =>
      go_wp2;go_ret;exact ⟨ah (HBAD.out (by first | rfl | trivial)).symm,(HB3.out.trans (HB5.out.mono HB3.out.size)).alloc (by have:=HB3.out.size;have:=HB5.out.size;omega) _⟩
    ·have HBW:=aa (HB3.out.trans (hB.mono HB3.out.size))
     go_wp2;go_ret;refine ⟨ah (Eq.symm ?_),HBW.out⟩;rw [HF.out,List.all_eq_true];intro x hx;obtain ⟨j,hj⟩:=List.getElem?_of_mem hx;exact HALL2.out j x (by have:=(List.getElem?_eq_some_iff.1 hj).1;omega) hj
def dM (vn:ByteArray)(suf:List UInt8)(on:ByteArray):Bool:=pV on ⟨(iK vn.data.toList suf).1.toArray⟩ (iK vn.data.toList suf).2
structure VS (ok:Nat→Prop)(w:World)(bv bs:Nat)(v:ay)(s:aB):Prop where
 bx:∃ u,w.heap[bv]?=some (.cells u.toArray 55 (0,0))∧aN ok w u v
 sx:∃ u,w.heap[bs]?=some (.cells u.toArray 79 (0,0))∧bC ok w u s
theorem qC {ok:Nat→Prop}(leg:Bool)(v:ay)(s:aB)(k:Nat)(n:Int)(r:aR)(bv bs:Nat)(w:World)(h:VS ok w bv bs v s)(hr:s.Ga[k]?=some r)(hS:Sfx w)(hvn:v.name.size≤1000000000) :
  Calls Tryz.prog 191 #[.int .i64 k,if leg then .func (.func 193) #[] #[] else .func (.func 194) #[] #[],.int .i64 n,.pointer (some ⟨bv,0,none⟩),.pointer (some ⟨bs,0,none⟩)] w fun e w'=>e=.returned (.bool (dM v.name (if leg then bq n else dH n) r.on))∧Below w.heap.size w w':=by
 obtain ⟨⟨u1,hb1,hv1⟩,⟨u2,hb2,hv2⟩⟩:=h;obtain ⟨tv,sv,rfl,_,_⟩:=hv1;obtain ⟨av,stv,rfl,har,_⟩:=hv2;obtain ⟨ap,ac,rfl,hac1,hac2⟩:=har.cap;have c0:w.cell? ⟨bv,0,none⟩=some (.string v.name):=by simp [World.cell?,hb1]
 have hbs:=lt_of_block hb2;have hkl:k<s.Ga.length:=(List.getElem?_eq_some_iff.1 hr).1;obtain ⟨b,off,us,rfl,_,hbw,hul,hvs,hcv⟩:=har.elem hr;obtain rfl:us=_:=hvs;have hq:=hcv 1 _ rfl;have HQ:=aa hq;have HB2:=aa hb2;have HS:=aa hS;have hn2:v.name.data.toList.length≤1000000000:=by simpa using hvn
 clear hb1 hb2 har hr hcv hul hS;cases leg with
 | true =>
  have HC:=aa (Ea v.name.data.toList n w hn2 HS.out);rw [← bytes_eta] at HC;simp only [if_true];go_enter Tryz.func191,Tryz.ntmps191
  go_wp2_with fail
  refine HC.out.mono ?_;rintro e w1 ⟨rfl,hb1⟩;have HB1:=aa hb1;have h3:w1.cell? ⟨bs,3,none⟩=some (.slice (some ⟨b,off,none⟩) s.Ga.length ac):=(hb1.cell (p:=⟨bs,3,none⟩) hbs).trans (by simp [World.cell?,HB2.out]);have q1:=(hb1.cell (p:=⟨b,off+k*3+1,none⟩) hbw).trans HQ.out;clear hb1
  go_wp2_with fail
  refine (mJ _ _ _ _).mono ?_;rintro e w2 ⟨rfl,rfl⟩;go_wp2;go_ret;exact ⟨rfl,HB1.out⟩
 | false =>
  have HC:=aa (wC v.name.data.toList n w hn2 HS.out);rw [← bytes_eta] at HC;simp only [Bool.false_eq_true,if_false];go_enter Tryz.func191,Tryz.ntmps191
  go_wp2_with fail
  refine HC.out.mono ?_;rintro e w1 ⟨rfl,hb1⟩;have HB1:=aa hb1;have h3:w1.cell? ⟨bs,3,none⟩=some (.slice (some ⟨b,off,none⟩) s.Ga.length ac):=(hb1.cell (p:=⟨bs,3,none⟩) hbs).trans (by simp [World.cell?,HB2.out]);have q1:=(hb1.cell (p:=⟨b,off+k*3+1,none⟩) hbw).trans HQ.out;clear hb1
  go_wp2_with fail
  refine (mJ _ _ _ _).mono ?_;rintro e w2 ⟨rfl,rfl⟩;go_wp2;go_ret;exact ⟨rfl,HB1.out⟩
theorem rR {ok:Nat→Prop}(v:ay)(s:aB)(k:Nat)(n:Int)(r:aR)(bv bs:Nat)(w:World)(h:VS ok w bv bs v s)(hr:s.Ga[k]?=some r)(hS:Sfx w)(hvn:v.name.size≤1000000000) :
  Calls Tryz.prog 191 #[.int .i64 k,.func (.func 193) #[] #[],.int .i64 n,.pointer (some ⟨bv,0,none⟩),.pointer (some ⟨bs,0,none⟩)] w fun e w'=>e=.returned (.bool (dM v.name (bq n) r.on))∧Below w.heap.size w w' :=
 qC true v s k n r bv bs w h hr hS hvn
theorem kg {ok:Nat→Prop}(v:ay)(s:aB)(k:Nat)(n:Int)(r:aR)(bv bs:Nat)(w:World)(h:VS ok w bv bs v s)(hr:s.Ga[k]?=some r)(hS:Sfx w)(hvn:v.name.size≤1000000000) :
  Calls Tryz.prog 191 #[.int .i64 k,.func (.func 194) #[] #[],.int .i64 n,.pointer (some ⟨bv,0,none⟩),.pointer (some ⟨bs,0,none⟩)] w fun e w'=>e=.returned (.bool (dM v.name (dH n) r.on))∧Below w.heap.size w w' :=
 qC false v s k n r bv bs w h hr hS hvn
def vU (v:ay)(s:aB):Bool:=(List.range s.Ga.length).all fun k=>dM v.name (bq k) ((s.Ga.map (·.on)).getD k ⟨#[]⟩)
def jS (v:ay)(s:aB):Bool :=
 if s.kind=3∨s.kind=4 then vU v s&&(s.log.toList.isEmpty||dM v.name (dH 1) s.log)
 else if s.kind=5 then dM v.name (dH 3) ((s.Ga.map (·.on)).getD 0 ⟨#[]⟩)&&dM v.name (dH 2) ((s.Ga.map (·.on)).getD 1 ⟨#[]⟩)
 else if s.kind=7 then dM v.name (bq 0) ((s.Ga.map (·.on)).getD 0 ⟨#[]⟩)&&dM v.name (dH 2) ((s.Ga.map (·.on)).getD 1 ⟨#[]⟩)&&dM v.name (dH 3) ((s.Ga.map (·.on)).getD 2 ⟨#[]⟩)
 else true
theorem uD {l:List aR}{k:Nat}{r:aR}(h:l[k]?=some r):(l.map (·.on)).getD k ⟨#[]⟩=r.on:=by simp [h]
theorem VS.below {ok:Nat→Prop}{w w':World}{bv bs:Nat}{v:ay}{s:aB}(h:VS ok w bv bs v s)(hb:Below w.heap.size w w'):VS ok w' bv bs v s:=by
 obtain ⟨⟨u1,hb1,hv1⟩,⟨u2,hb2,hv2⟩⟩:=h;exact ⟨⟨u1,(hb.block _ (lt_of_block hb1)).trans hb1,aN.moves.mv (Mv.of hb) hv1⟩,⟨u2,(hb.block _ (lt_of_block hb2)).trans hb2,bC.moves.mv (Mv.of hb) hv2⟩⟩
theorem Bo {ok:Nat→Prop}(v:ay)(s:aB)(u1 u2:List Value)(w:World)(hv:aN ok w u1 v)(hs:bC ok w u2 s)(ha:s.Ga.length≤1000000)(hS:Sfx w)(hvn:v.name.size≤1000000000)(h5:s.kind=5→2≤s.Ga.length)(h7:s.kind=7→3≤s.Ga.length) :
  Calls Tryz.prog 145 #[.agg u1.toArray,.agg u2.toArray] w fun e w'=>e=.returned (.bool (jS v s))∧Below w.heap.size w w':=by
 have HVV:=aa hv;have HSV:=aa hs;obtain ⟨tv,sv,rfl,htr,hsr⟩:=hv;obtain ⟨tp,tc,rfl,_,_⟩:=htr.cap;obtain ⟨sp,sc,rfl,_,_⟩:=hsr.cap;obtain ⟨av,stv,rfl,har,hst⟩:=hs;obtain ⟨ap,ac,rfl,hac1,hac2⟩:=har.cap;obtain ⟨stp,stc,rfl,hsc1,hsc2⟩:=hst.cap;clear htr hsr har hst;have HSX:=aa hS;clear hS;have H5:=aa h5;clear h5;have H7:=aa h7;clear h7;have hb2:=(ae w (.cells #[.string v.name,.int .u64 v.id,.bool v.hidden,.bool v.ro,.slice tp v.tags.length tc,.slice sp v.Gf.length sc] 55)).trans ((ae (w.alloc (.cells #[.string v.name,.int .u64 v.id,.bool v.hidden,.bool v.ro,.slice tp v.tags.length tc,.slice sp v.Gf.length sc] 55)) (.cells #[.int .i64 s.start,.int .i64 s.length,.int .i64 s.kind,.slice ap s.Ga.length ac,.int .i64 s.chunk,.slice stp s.stale.length stc,.string s.log,.string s.pool,.int .i64 s.device,.int .i64 s.mode,.int .i64 s.done] 79)).mono (ae w _).size)
 have hVS:VS ok ((w.alloc (.cells #[.string v.name,.int .u64 v.id,.bool v.hidden,.bool v.ro,.slice tp v.tags.length tc,.slice sp v.Gf.length sc] 55)).alloc (.cells #[.int .i64 s.start,.int .i64 s.length,.int .i64 s.kind,.slice ap s.Ga.length ac,.int .i64 s.chunk,.slice stp s.stale.length stc,.string s.log,.string s.pool,.int .i64 s.device,.int .i64 s.mode,.int .i64 s.done] 79)) w.heap.size (w.heap.size+1) v s:=by
  refine ⟨⟨_,(Below.heap_alloc _ _ _ (by simp)).trans (heap_alloc_new w _),aN.moves.mv (Mv.of hb2) HVV.out⟩,⟨_,?_,bC.moves.mv (Mv.of hb2) HSV.out⟩⟩;have:=heap_alloc_new (w.alloc (.cells #[.string v.name,.int .u64 v.id,.bool v.hidden,.bool v.ro,.slice tp v.tags.length tc,.slice sp v.Gf.length sc] 55)) (.cells #[.int .i64 s.start,.int .i64 s.length,.int .i64 s.kind,.slice ap s.Ga.length ac,.int .i64 s.chunk,.slice stp s.stale.length stc,.string s.log,.string s.pool,.int .i64 s.device,.int .i64 s.mode,.int .i64 s.done] 79);rw [World.size_alloc] at this;exact this
 have HB2:=aa hb2;clear hb2;have HVS:=aa hVS;clear hVS;have HF:Hid (jS v s=_):=aa (jS.eq_1 v s)
 have s0:∀ wr:World,wr.heap[w.heap.size+1]?=((w.alloc (.cells #[.string v.name,.int .u64 v.id,.bool v.hidden,.bool v.ro,.slice tp v.tags.length tc,.slice sp v.Gf.length sc] 55)).alloc (.cells #[.int .i64 s.start,.int .i64 s.length,.int .i64 s.kind,.slice ap s.Ga.length ac,.int .i64 s.chunk,.slice stp s.stale.length stc,.string s.log,.string s.pool,.int .i64 s.device,.int .i64 s.mode,.int .i64 s.done] 79)).heap[w.heap.size+1]?→wr.heap[w.heap.size]?=((w.alloc (.cells #[.string v.name,.int .u64 v.id,.bool v.hidden,.bool v.ro,.slice tp v.tags.length tc,.slice sp v.Gf.length sc] 55)).alloc (.cells #[.int .i64 s.start,.int .i64 s.length,.int .i64 s.kind,.slice ap s.Ga.length ac,.int .i64 s.chunk,.slice stp s.stale.length stc,.string s.log,.string s.pool,.int .i64 s.device,.int .i64 s.mode,.int .i64 s.done] 79)).heap[w.heap.size]?→wr.cell? ⟨w.heap.size+1,2,none⟩=some (.int .i64 s.kind)∧wr.cell? ⟨w.heap.size+1,6,none⟩=some (.string s.log)∧wr.cell? ⟨w.heap.size,0,none⟩=some (.string v.name):=fun wr h1 h0=>by
  have e1:wr.heap[w.heap.size+1]?=some (.cells #[.int .i64 s.start,.int .i64 s.length,.int .i64 s.kind,.slice ap s.Ga.length ac,.int .i64 s.chunk,.slice stp s.stale.length stc,.string s.log,.string s.pool,.int .i64 s.device,.int .i64 s.mode,.int .i64 s.done] 79 (0,0)):=by
   rw [h1];have:=heap_alloc_new (w.alloc (.cells #[.string v.name,.int .u64 v.id,.bool v.hidden,.bool v.ro,.slice tp v.tags.length tc,.slice sp v.Gf.length sc] 55)) (.cells #[.int .i64 s.start,.int .i64 s.length,.int .i64 s.kind,.slice ap s.Ga.length ac,.int .i64 s.chunk,.slice stp s.stale.length stc,.string s.log,.string s.pool,.int .i64 s.device,.int .i64 s.mode,.int .i64 s.done] 79);rw [World.size_alloc] at this;exact this
  have e0:wr.heap[w.heap.size]?=some (.cells #[.string v.name,.int .u64 v.id,.bool v.hidden,.bool v.ro,.slice tp v.tags.length tc,.slice sp v.Gf.length sc] 55 (0,0)):=h0.trans ((Below.heap_alloc _ _ _ (by simp)).trans (heap_alloc_new w _));exact ⟨by simp [World.cell?,e1],by simp [World.cell?,e1],by simp [World.cell?,e0]⟩
 have HS0:=aa s0;clear s0
 by_cases k34:s.kind=3∨s.kind=4
 ·rw [if_pos k34] at HF
  have hk:(s.kind == 3)=true∨((s.kind == 3)=false∧(s.kind == 4)=true):=by
   rcases k34 with h | h
   ·exact .inl (by simpa using h)
   ·exact .inr ⟨by rw [h];rfl,by simpa using h⟩
  clear k34;rcases hk with k3 | ⟨k3,k4⟩
  all_goals
   go_enter Tryz.func145,Tryz.ntmps145;have s3:((w.alloc (.cells #[.string v.name,.int .u64 v.id,.bool v.hidden,.bool v.ro,.slice tp v.tags.length tc,.slice sp v.Gf.length sc] 55)).alloc (.cells #[.int .i64 s.start,.int .i64 s.length,.int .i64 s.kind,.slice ap s.Ga.length ac,.int .i64 s.chunk,.slice stp s.stale.length stc,.string s.log,.string s.pool,.int .i64 s.device,.int .i64 s.mode,.int .i64 s.done] 79)).cell? ⟨w.heap.size+1,3,none⟩=some (.slice ap s.Ga.length ac):=aD (by simp) rfl;go_wp2;generalize hW2:World.alloc (World.alloc w _) _=W2 at *;clear hW2 s3
   go_loopw [18] (fun i wr=>∃ k:Nat,k≤s.Ga.length∧i=.int .i64 k∧(∀ j,j<k→dM v.name (bq j) ((s.Ga.map (·.on)).getD j ⟨#[]⟩)=true)∧VS ok wr w.heap.size (w.heap.size+1) v s∧Below w.heap.size w wr∧wr.heap[w.heap.size+1]?=W2.heap[w.heap.size+1]?∧wr.heap[w.heap.size]?=W2.heap[w.heap.size]?∧w.heap.size+1<wr.heap.size) (fun i _=>s.Ga.length - (intOf i).toNat)
   case atStart=>exact ⟨0,Nat.zero_le _,rfl,fun j hj=>by omega,HVS.out,HB2.out,rfl,rfl,by obtain ⟨⟨_,_,_⟩,⟨_,h,_⟩⟩:=HVS.out;exact lt_of_block h⟩
   case round =>
    obtain ⟨k,hk,rfl,hall,hvs,hB,hw1,hw0,hwz⟩:=hrel;have HALL:=aa hall;clear hall;have HVS1:=aa hvs;clear hvs;have HW1:=aa hw1;clear hw1;have HW0:=aa hw0;clear hw0
    by_cases hlt:k<s.Ga.length
    ·obtain ⟨r,hr⟩:=aj s.Ga k hlt
     have HON:=aa (uD hr);have HR:=aa hr;clear hr
     go_wp2_with fail
     refine (rR (ok:=ok) v s k k r _ _ _ HVS1.out HR.out (HSX.out.below hB) hvn).mono ?_;rintro e w3 ⟨rfl,hb3⟩;have HB3:=aa (hB.trans (hb3.mono hB.size));have HVS3:=aa (HVS1.out.below hb3);have HW31:=aa ((hb3.block _ hwz).trans HW1.out);have HW30:=aa ((hb3.block _ (by omega)).trans HW0.out);have HZ3:Hid (w.heap.size+1<w3.heap.size):=aa (Nat.lt_of_lt_of_le hwz hb3.size);clear hb3
     have HBAD:Hid (dM v.name (bq k) r.on=false→jS v s=false):=aa fun h=>by
      have:vU v s=false:=by
       unfold vU;rw [List.all_eq_false];exact ⟨k,List.mem_range.2 hlt,by rw [HON.out,h];simp⟩
      rw [HF.out,this];rfl
     have HGOOD:Hid (dM v.name (bq k) r.on=true→∀ j,j<k+1→dM v.name (bq j) ((s.Ga.map (·.on)).getD j ⟨#[]⟩)=true):=aa fun h j hj=>by
      by_cases hjk:j=k
      ·subst hjk
       rw [HON.out];exact h
      ·exact HALL.out j (by omega)
     generalize hqq:dM v.name (bq k) r.on=qq at *;clear hqq;cases qq with
     | true =>
      go_wp2;go_roundw
      case rel=>exact ⟨k+1,by omega,by go_num,HGOOD.out (by first | rfl | trivial),HVS3.out,HB3.out,HW31.out,HW30.out,HZ3.out⟩
      case measure=>simp [intOf];omega
     | false =>
      go_wp2;go_ret;exact ⟨ah (HBAD.out (by first | rfl | trivial)).symm,HB3.out⟩
    ·have HL:Hid (vU v s=true):=aa (by
      unfold vU;rw [List.all_eq_true]
      exact fun j hj=>HALL.out j (by have:=List.mem_range.1 hj;omega))
     obtain ⟨_,l6,n0⟩:=HS0.out wr HW1.out HW0.out;cases hle:s.log.toList.isEmpty with
     | true =>
      have HR:Hid (jS v s=true):=aa (by rw [HF.out,HL.out,hle];simp);go_wp2;go_ret;exact ⟨ah HR.out.symm,hB⟩
     | false =>
      have HR:Hid (jS v s=dM v.name (dH 1) s.log):=aa (by rw [HF.out,HL.out,hle];simp);have HC:=aa (fun W hW=>wC v.name.data.toList 1 W (by simpa using hvn) (HSX.out.below hW));rw [← bytes_eta] at HC
      go_wp2_with fail
      refine (HC.out _ hB).mono ?_;rintro e w3 ⟨rfl,hb3⟩;have HB3:=aa (hB.trans (hb3.mono hB.size));have l6':=(hb3.cell (p:=⟨w.heap.size+1,6,none⟩) hwz).trans l6;clear hb3 l6
      go_wp2_with fail
      refine (mJ _ _ _ _).mono ?_;rintro e w4 ⟨rfl,rfl⟩;go_wp2;go_ret;exact ⟨ah (by rw [HR.out];rfl),HB3.out⟩
 ·rw [if_neg k34] at HF
  have k3:(s.kind == 3)=false:=by simp;omega
  have k4:(s.kind == 4)=false:=by simp;omega
  by_cases k5:s.kind=5
  ·rw [if_pos k5] at HF
   have hl:=H5.out k5;have k5b:(s.kind == 5)=true:=by simpa using k5
   obtain ⟨r0,hr0⟩:=aj s.Ga 0 (by omega);obtain ⟨r1,hr1⟩:=aj s.Ga 1 (by omega);rw [uD hr0,uD hr1] at HF;clear k5 k34;go_enter Tryz.func145,Tryz.ntmps145
   go_wp2_with fail
   generalize hW2:World.alloc (World.alloc w _) _=W2 at *;clear hW2;refine (kg (ok:=ok) v s 0 3 r0 _ _ _ HVS.out hr0 (HSX.out.below HB2.out) hvn).mono ?_;rintro e w3 ⟨rfl,hb3⟩;have HVS1:=aa (HVS.out.below hb3);have HB3:=aa (HB2.out.trans (hb3.mono HB2.out.size));clear hb3;generalize hq0:dM v.name (dH 3) r0.on=q0 at *;clear hq0;cases q0 with
   | false =>
    go_wp2;go_ret;exact ⟨ah (by rw [HF.out];simp),HB3.out⟩
   | true =>
    go_wp2_with fail
    refine (kg (ok:=ok) v s 1 2 r1 _ _ _ HVS1.out hr1 (HSX.out.below HB3.out) hvn).mono ?_;rintro e w4 ⟨rfl,hb4⟩;have HVS2:=aa (HVS1.out.below hb4);have HB4:=aa (HB3.out.trans (hb4.mono HB3.out.size));clear hb4;generalize hq1:dM v.name (dH 2) r1.on=q1 at *;clear hq1;go_wp2;go_ret;exact ⟨ah (by rw [HF.out];simp),HB4.out⟩
  ·rw [if_neg k5] at HF
   have k5b:(s.kind == 5)=false:=by simpa using k5
   by_cases k7:s.kind=7
   ·rw [if_pos k7] at HF
    have hl:=H7.out k7;have k7b:(s.kind == 7)=true:=by simpa using k7
    obtain ⟨r0,hr0⟩:=aj s.Ga 0 (by omega);obtain ⟨r1,hr1⟩:=aj s.Ga 1 (by omega);obtain ⟨r2,hr2⟩:=aj s.Ga 2 (by omega);rw [uD hr0,uD hr1,uD hr2] at HF;clear k7 k34 k5;go_enter Tryz.func145,Tryz.ntmps145
    go_wp2_with fail
    generalize hW2:World.alloc (World.alloc w _) _=W2 at *;clear hW2;refine (rR (ok:=ok) v s 0 0 r0 _ _ _ HVS.out hr0 (HSX.out.below HB2.out) hvn).mono ?_;rintro e w3 ⟨rfl,hb3⟩;have HVS1:=aa (HVS.out.below hb3);have HB3:=aa (HB2.out.trans (hb3.mono HB2.out.size));clear hb3;generalize hq0:dM v.name (bq 0) r0.on=q0 at *;clear hq0;cases q0 with
    | false =>
     go_wp2;go_ret;exact ⟨ah (by rw [HF.out];simp),HB3.out⟩
    | true =>
     go_wp2_with fail
     refine (kg (ok:=ok) v s 1 2 r1 _ _ _ HVS1.out hr1 (HSX.out.below HB3.out) hvn).mono ?_;rintro e w4 ⟨rfl,hb4⟩;have HVS2:=aa (HVS1.out.below hb4);have HB4:=aa (HB3.out.trans (hb4.mono HB3.out.size));clear hb4;generalize hq1:dM v.name (dH 2) r1.on=q1 at *;clear hq1;cases q1 with
     | false =>
      go_wp2;go_ret;exact ⟨ah (by rw [HF.out];simp),HB4.out⟩
     | true =>
      go_wp2_with fail
      refine (kg (ok:=ok) v s 2 3 r2 _ _ _ HVS2.out hr2 (HSX.out.below HB4.out) hvn).mono ?_;rintro e w5 ⟨rfl,hb5⟩;have HVS3:=aa (HVS2.out.below hb5);have HB5:=aa (HB4.out.trans (hb5.mono HB4.out.size));clear hb5;generalize hq2:dM v.name (dH 3) r2.on=q2 at *;clear hq2;go_wp2;go_ret;exact ⟨ah (by rw [HF.out];simp),HB5.out⟩
   ·rw [if_neg k7] at HF
    have k7b:(s.kind == 7)=false:=by simpa using k7
    clear k7 k34 k5;go_enter Tryz.func145,Tryz.ntmps145;go_wp2;go_ret;exact ⟨ah (by rw [HF.out]),HB2.out⟩
end Go.Proofs.YtjdfihglehfelaaGreatDoor
