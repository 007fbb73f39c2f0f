/- Lemmas: ModB. -/
import Derived.Test.YtjdfihglehfelaaGreatDoorPk12
set_option maxRecDepth 100000
set_option maxHeartbeats 32000000
set_option linter.all false
namespace Go.Proofs.YtjdfihglehfelaaGreatDoor
open Go.RowKit Go.Maps
structure dN (ok:Nat→Prop)(w:World)(g:af)(a:bN):Prop where
 tags:RdS aF 1 ok w [.slice a.tp g.tags.length a.tc] g.tags
 Gb:RdS aO 7 ok w [.slice a.dp g.Gb.length a.dc] g.Gb
 F9:RdS aN 6 ok w [.slice a.vp g.F9.length a.vc] g.F9
 hist:RdS lF 3 ok w [.slice a.hp g.history.length a.hc] g.history
theorem dN.mv {ok ok':Nat→Prop}{w w':World}{g:af}{a:bN}(h:dN ok w g a)(hm:Mv ok ok' w w'):dN ok' w' g a :=
 ⟨(RdS.moves aF.moves).mv hm h.tags,(RdS.moves aO.moves).mv hm h.Gb,(RdS.moves aN.moves).mv hm h.F9,(RdS.moves lF.moves).mv hm h.hist⟩
theorem pF:Keyed Tryz.prog 3:=int_keyed Tryz.underlying3
def gY (w:World)(bc:Nat)(g:af)(a:bN):Prop :=
 ∃ sm,w.heap[bc]?=some (.cells #[.string g.name,.int .u64 g.id,.int .i64 g.seq,.int .i64 g.Gd,.int .i64 g.next,.slice a.tp g.tags.length a.tc,.slice a.dp g.Gb.length a.dc,.slice a.vp g.F9.length a.vc,.slice a.hp g.history.length a.hc,.map (some sm)] 141 (0,0)) ∧
  bi Tryz.prog 3 w sm 10 eH
theorem gY.below {w w':World}{bc:Nat}{g:af}{a:bN}(h:gY w bc g a)(hb:Below w.heap.size w w'):gY w' bc g a:=by
 obtain ⟨sm,h1,h2⟩:=h;exact ⟨sm,(hb.block _ (lt_of_block h1)).trans h1,h2.block (hb.block _ h2.lt)⟩
theorem gY.lt {w:World}{bc:Nat}{g:af}{a:bN}(h:gY w bc g a):bc<w.heap.size:=by
 obtain ⟨sm,h1,_⟩:=h;exact lt_of_block h1
theorem wW {ok:Nat→Prop}(g:af)(a:bN)(bc:Nat)(s:aB)(x:eX)(u:List Value)(w:World)(hck:gY w bc g a)(hg0:0≤g.Gd)(hg1:g.Gd≤1000000)(hv:bC ok w u s) :
  Calls Tryz.prog 189 #[.pointer (some ⟨bc,0,none⟩),.agg u.toArray,.agg (dm x).toArray] w fun e w'=>e=.returned (.bool (fq g.Gd s.chunk x))∧Below w.heap.size w w':=by
 unfold dm;have hbcl:=hck.lt;obtain ⟨av,stv,rfl,har,hst⟩:=hv;obtain ⟨ap,ac,rfl,hac1,hac2⟩:=har.cap;obtain ⟨stp,stc,rfl,hsc1,hsc2⟩:=hst.cap;clear har hst;obtain ⟨sm,hblk,_⟩:=hck;have HM:Hid (fq g.Gd s.chunk x=_):=aa (fq.eq_1 g.Gd s.chunk x);have HB2:=aa ((ae w (.cells #[.int .i64 s.start,.int .i64 s.length,.int .i64 s.kind,.slice ap s.Ga.length ac,.int .i64 s.chunk,.slice stp s.stale.length stc,.string s.log,.string s.pool,.int .i64 s.device,.int .i64 s.mode,.int .i64 s.done] 79)).trans ((ae (w.alloc (.cells #[.int .i64 s.start,.int .i64 s.length,.int .i64 s.kind,.slice ap s.Ga.length ac,.int .i64 s.chunk,.slice stp s.stale.length stc,.string s.log,.string s.pool,.int .i64 s.device,.int .i64 s.mode,.int .i64 s.done] 79)) (.cells #[.int .i64 x.least,.int .i64 x.greatest,.bool x.F9,.bool x.several,.int .i64 x.chunk,.bool x.stale,.bool x.pool,.bool x.log,.bool x.mode,.bool x.done] 183)).mono (ae w (.cells #[.int .i64 s.start,.int .i64 s.length,.int .i64 s.kind,.slice ap s.Ga.length ac,.int .i64 s.chunk,.slice stp s.stale.length stc,.string s.log,.string s.pool,.int .i64 s.device,.int .i64 s.mode,.int .i64 s.done] 79)).size));have c3:((w.alloc (.cells #[.int .i64 s.start,.int .i64 s.length,.int .i64 s.kind,.slice ap s.Ga.length ac,.int .i64 s.chunk,.slice stp s.stale.length stc,.string s.log,.string s.pool,.int .i64 s.device,.int .i64 s.mode,.int .i64 s.done] 79)).alloc (.cells #[.int .i64 x.least,.int .i64 x.greatest,.bool x.F9,.bool x.several,.int .i64 x.chunk,.bool x.stale,.bool x.pool,.bool x.log,.bool x.mode,.bool x.done] 183)).cell? ⟨bc,3,none⟩=some (.int .i64 g.Gd):=(World.cell?_of_block (a:=⟨bc,3,none⟩) (HB2.out.block bc hbcl)).trans (by simp [World.cell?,hblk]);have x4:((w.alloc (.cells #[.int .i64 s.start,.int .i64 s.length,.int .i64 s.kind,.slice ap s.Ga.length ac,.int .i64 s.chunk,.slice stp s.stale.length stc,.string s.log,.string s.pool,.int .i64 s.device,.int .i64 s.mode,.int .i64 s.done] 79)).alloc (.cells #[.int .i64 x.least,.int .i64 x.greatest,.bool x.F9,.bool x.several,.int .i64 x.chunk,.bool x.stale,.bool x.pool,.bool x.log,.bool x.mode,.bool x.done] 183)).cell? ⟨w.heap.size+1,4,none⟩=some (.int .i64 x.chunk):=aD (by simp) rfl;have s4:((w.alloc (.cells #[.int .i64 s.start,.int .i64 s.length,.int .i64 s.kind,.slice ap s.Ga.length ac,.int .i64 s.chunk,.slice stp s.stale.length stc,.string s.log,.string s.pool,.int .i64 s.device,.int .i64 s.mode,.int .i64 s.done] 79)).alloc (.cells #[.int .i64 x.least,.int .i64 x.greatest,.bool x.F9,.bool x.several,.int .i64 x.chunk,.bool x.stale,.bool x.pool,.bool x.log,.bool x.mode,.bool x.done] 183)).cell? ⟨w.heap.size,4,none⟩=some (.int .i64 s.chunk):=(World.cell?_of_block (a:=⟨w.heap.size,4,none⟩) (Below.heap_alloc _ _ _ (by simp))).trans (aD rfl rfl);clear hblk
 by_cases h0:x.chunk=0
 ·have q:(x.chunk == 0)=true:=by simpa using h0
  rw [if_pos h0] at HM;clear h0;go_enter Tryz.func189,Tryz.ntmps189;go_wp2;go_ret;exact ⟨ah HM.out.symm,HB2.out⟩
 ·have q:(x.chunk == 0)=false:=by simpa using h0
  rw [if_neg h0] at HM
  by_cases h1:x.chunk=1
  ·rw [if_pos h1] at HM
   have q1:(x.chunk == 1)=true:=by simpa using h1
   clear h0 h1
   by_cases hc:1≤s.chunk
   ·have e1:g.Gd.tmod s.chunk=g.Gd % s.chunk:=Int.tmod_eq_emod_of_nonneg hg0
    have e0:0≤g.Gd % s.chunk:=Int.emod_nonneg _ (by omega)
    have e2:g.Gd % s.chunk≤g.Gd:=by
     rw [Int.emod_def];have:=Int.mul_nonneg (show 0≤s.chunk by omega) (Int.ediv_nonneg hg0 (show 0≤s.chunk by omega));omega
    have e3:IntKind.i64.wrap (g.Gd % s.chunk)=g.Gd % s.chunk:=IntWalk.i64_in _ (by omega);have e4:(s.chunk == 0)=false:=by simp;omega
    have HD:Hid (decide (1≤s.chunk)=true):=aa (by simpa using hc);go_enter Tryz.func189,Tryz.ntmps189;go_wp2;go_quiet (fail);go_wp2;go_ret;exact ⟨ah (by rw [HM.out,HD.out];rfl),aT HB2.out _⟩
   ·have hd:decide (1≤s.chunk)=false:=by simpa using hc
    go_enter Tryz.func189,Tryz.ntmps189;go_wp2;go_quiet (fail);go_wp2;go_ret;exact ⟨ah (by rw [HM.out,decide_eq_false (show ¬ 1≤s.chunk by omega)];rfl),aT HB2.out _⟩
  ·have q1:(x.chunk == 1)=false:=by simpa using h1
   rw [if_neg h1] at HM;clear h0 h1
   by_cases hc:1≤s.chunk
   ·by_cases hd:s.chunk≤x.chunk
    ·go_enter Tryz.func189,Tryz.ntmps189
     go_wp2;go_ret;exact ⟨ah (by rw [HM.out,decide_eq_true (show 1≤s.chunk by omega),decide_eq_true (show s.chunk≤x.chunk by omega)];rfl),HB2.out⟩
    ·go_enter Tryz.func189,Tryz.ntmps189
     go_wp2;go_ret;exact ⟨ah (by rw [HM.out,decide_eq_false (show ¬ s.chunk≤x.chunk by omega)];simp),HB2.out⟩
   ·go_enter Tryz.func189,Tryz.ntmps189
    go_wp2;go_ret;exact ⟨ah (by rw [HM.out,decide_eq_false (show ¬ 1≤s.chunk by omega)];rfl),HB2.out⟩
theorem uG (w:World):(zeroValue 183).run Tryz.prog w=.ok (jR yu) w:=by kernel_rfl
def oO (k:Int):eX:=(shapeOf k).getD yu
theorem uA (k:Int):(eH (.int .i64 k)).getD (jR yu)=jR (oO k):=by
 rw [show eH (.int .i64 k)=(shapeOf k).map jR from rfl];unfold oO;cases shapeOf k <;> rfl
theorem ni {ok:Nat→Prop}(g:af)(a:bN)(bc:Nat)(s:aB)(x:eX)(u cx:List Value)(w:World)(hck:gY w bc g a)(hg0:0≤g.Gd)(hg1:g.Gd≤1000000)(hv:bC ok w u s)(hc:cx=dm x) :
  Calls Tryz.prog 189 #[.pointer (some ⟨bc,0,none⟩),.agg u.toArray,.agg cx.toArray] w fun e w'=>e=.returned (.bool (fq g.Gd s.chunk x))∧Below w.heap.size w w':=by
 subst hc;exact wW g a bc s x u w hck hg0 hg1 hv
theorem jb {ok:Nat→Prop}(s:aB)(x:eX)(u cx:List Value)(w:World)(hv:bC ok w u s)(ha:s.Ga.length≤1000000)(hl:s.stale.length≤1000000)(hc:cx=dm x) :
  Calls Tryz.prog 190 #[.agg u.toArray,.agg cx.toArray] w fun e w'=>e=.returned (.bool (dP s x))∧Below w.heap.size w w':=by
 subst hc;exact xY s x u w hv ha hl
theorem wE {k:Int}{x:eX}(h:shapeOf k=some x):(x.F9=true→x.pool=false)∧(x.F9=false→x.log=false):=by
 unfold shapeOf at h
 repeat' (split at h;· (cases h;simp))
 cases h
theorem lu {x:eX}(h:shapeOf 2=some x):x.least=2:=by cases h;rfl
theorem kC {x:eX}(h:shapeOf 4=some x):x.least=3:=by cases h;rfl
theorem Mv.of {ok:Nat→Prop}{w w':World}(hb:Below w.heap.size w w'):Mv ok ok w w':=⟨hb.size,fun b hb' ho=>⟨ho,hb.block b hb'⟩⟩
theorem jT {ext:Int}{s:aB}{start:Int}(h:shapeOf s.kind=none):bJ ext s start=false:=by unfold bJ;rw [h]
theorem jP {ext:Int}{s:aB}{start:Int}{x:eX}(h:shapeOf s.kind=some x):bJ ext s start=(s.start == start&&decide (1≤s.length)&&decide (s.length≤32768)&&decide (x.least≤s.Ga.length)&&decide (s.Ga.length≤x.greatest)&&s.Ga.all (bT x) &&
   fq ext s.chunk x&&(x.log||s.log.toList.isEmpty)&&(x.pool||s.pool.toList.isEmpty)&&dP s x&&bE s.device 1 65535 x.pool&&bE s.mode 1 2 x.mode&&bE s.done 0 s.length x.done &&
   !(s.kind == 2&&!(s.length % s.Ga.length == 0))&&!(s.kind == 4&&!(s.length % (s.Ga.length - 1) == 0))):=by unfold bJ;rw [h]
theorem ze {ok:Nat→Prop}(g:af)(a:bN)(bc:Nat)(s:aB)(start:Int)(u:List Value)(w:World)(hck:gY w bc g a)(hg0:0≤g.Gd)(hg1:g.Gd≤1000000)(hv:bC ok w u s)(ha:s.Ga.length≤1000000)(hl:s.stale.length≤1000000)(hkw:(Lit.int .i64 s.kind).wf=true) :
  Calls Tryz.prog 140 #[.pointer (some ⟨bc,0,none⟩),.agg u.toArray,.int .i64 start] w fun e w'=>e=.returned (.bool (bJ g.Gd s start))∧Below w.heap.size w w':=by
 have hbcl:=hck.lt;have HV:=aa hv;obtain ⟨av,stv,rfl,har,hst⟩:=hv;obtain ⟨ap,ac,rfl,hac1,hac2⟩:=har.cap;obtain ⟨stp,stc,rfl,hsc1,hsc2⟩:=hst.cap;have HAR:=aa har;clear har hst;have HCK:=aa hck;obtain ⟨sm,hblk,hmp⟩:=hck;have HB1:=aa (ae w (.cells #[.int .i64 s.start,.int .i64 s.length,.int .i64 s.kind,.slice ap s.Ga.length ac,.int .i64 s.chunk,.slice stp s.stale.length stc,.string s.log,.string s.pool,.int .i64 s.device,.int .i64 s.mode,.int .i64 s.done] 79));have hlk:=fun w' (hm:bi Tryz.prog 3 w' sm 10 eH)=>(hm.look pF Tryz.underlying138 (uG w') (keyOf_int_mk Tryz.underlying3 hkw)).2;rw [uA] at hlk;obtain ⟨x,hx⟩:∃ x,x=oO s.kind:=⟨_,rfl⟩;rw [← hx,show jR x=.agg #[.int .i64 x.least,.int .i64 x.greatest,.bool x.F9,.bool x.several,.int .i64 x.chunk,.bool x.stale,.bool x.pool,.bool x.log,.bool x.mode,.bool x.done] from rfl] at hlk;have HX:=aa hx;clear hx;have HLK:=aa hlk;clear hlk;have hc9:w.cell? ⟨bc,9,none⟩=some (.map (some sm)):=by simp [World.cell?,hblk]
 have HM:=aa hmp;clear hmp;have hsml:=HM.out.lt;clear hblk
 have hS:∀ w':World,Below w.heap.size w w'→w'.cell? ⟨w.heap.size,2,none⟩=some (.int .i64 s.kind)→w'.cell? ⟨bc,9,none⟩=some (.map (some sm))∧w'.cell? ⟨w.heap.size,2,none⟩=some (.int .i64 s.kind)∧(Instr.lookup 138 (.map (some sm)) (.int .i64 s.kind) true).run Tryz.prog w'=.ok (.tuple #[.agg #[.int .i64 x.least,.int .i64 x.greatest,.bool x.F9,.bool x.several,.int .i64 x.chunk,.bool x.stale,.bool x.pool,.bool x.log,.bool x.mode,.bool x.done],.bool (eH (.int .i64 s.kind)).isSome]) w':=fun w' hb h2 =>
  ⟨(hb.cell (p:=⟨bc,9,none⟩) hbcl).trans hc9,h2,HLK.out w' (HM.out.block (hb.block _ hsml))⟩
 have HS:=aa hS;clear hS hc9;go_enter Tryz.func140,Tryz.ntmps140;go_wp2;generalize hW1:World.alloc w _=W1 at *;have hk2:W1.cell? ⟨w.heap.size,2,none⟩=some (.int .i64 s.kind):=by rw [← hW1];exact aD rfl rfl
 have HW1:=aa hW1;clear hW1;refine aL (fun w'=>w'.cell? ⟨bc,9,none⟩=some (.map (some sm))∧w'.cell? ⟨w.heap.size,2,none⟩=some (.int .i64 s.kind)∧(Instr.lookup 138 (.map (some sm)) (.int .i64 s.kind) true).run Tryz.prog w'=.ok (.tuple #[.agg #[.int .i64 x.least,.int .i64 x.greatest,.bool x.F9,.bool x.several,.int .i64 x.chunk,.bool x.stale,.bool x.pool,.bool x.log,.bool x.mode,.bool x.done],.bool (eH (.int .i64 s.kind)).isSome]) w') 13 [] (by kernel_rfl) (HS.out _ HB1.out.drew hk2) (fun hHeld=>?_);refine tkF 0 hHeld ?_;try simp only [ak];refine tkF 1 hHeld ?_;try simp only [ak];refine tkF 2 hHeld ?_;try simp only [ak];refine tkF 3 hHeld ?_;try simp only [ak];refine tkF 4 hHeld ?_;try simp only [ak];refine tkF 5 hHeld ?_;try simp only [ak];refine tkF 6 hHeld ?_;try simp only [ak];refine tkF 7 hHeld ?_;try simp only [ak];refine tkF 8 hHeld ?_;try simp only [ak];refine tkF 9 hHeld ?_;try simp only [ak];refine au (i:=10) rfl rfl (by kernel_rfl) (fun K hK=>?_);go_simp;have HB2:Hid (Below w.heap.size w (W1.drew.alloc (.cells #[.int .i64 0,.int .i64 0,.bool false,.bool false,.int .i64 0,.bool false,.bool false,.bool false,.bool false,.bool false] 183))):=aa (HB1.out.drew.alloc (by have:=HB1.out.size;simpa using this) _);refine hK.out _ _ (HS.out _ HB2.out ?_) ?_
 ·exact (World.cell?_of_block (a:=⟨w.heap.size,2,none⟩) (Below.heap_alloc _ _ _ (by simpa using World.block_lt_of_cell? W1 _ hk2))).trans hk2
 clear hK K;refine au (i:=11) rfl rfl (by kernel_rfl) (fun K hK=>?_);go_simp;have HB3:Hid (Below w.heap.size w (W1.alloc (.cells #[.int .i64 x.least,.int .i64 x.greatest,.bool x.F9,.bool x.several,.int .i64 x.chunk,.bool x.stale,.bool x.pool,.bool x.log,.bool x.mode,.bool x.done] 183)).drew):=aa ((HB1.out.alloc HB1.out.size _).drew);have hk3:(W1.alloc (.cells #[.int .i64 x.least,.int .i64 x.greatest,.bool x.F9,.bool x.several,.int .i64 x.chunk,.bool x.stale,.bool x.pool,.bool x.log,.bool x.mode,.bool x.done] 183)).drew.cell? ⟨w.heap.size,2,none⟩=some (.int .i64 s.kind):=(World.cell?_of_block (a:=⟨w.heap.size,2,none⟩) (Below.heap_alloc _ _ _ (World.block_lt_of_cell? W1 _ hk2))).trans hk2;refine hK.out _ _ (HS.out _ HB3.out hk3) ?_;clear hK K;refine au (i:=12) rfl rfl (by kernel_rfl) (fun K hK=>?_);go_simp;refine hK.out _ _ (HS.out _ HB3.out hk3) ?_;clear hK K hHeld;refine aP (by kernel_rfl) rfl ?_;simp only [List.drop_succ_cons,List.drop_nil,List.drop_zero];have hwl:w.heap.size<W1.heap.size:=World.block_lt_of_cell? W1 _ hk2;have HN:=aa (heap_alloc_new W1 (.cells #[.int .i64 x.least,.int .i64 x.greatest,.bool x.F9,.bool x.several,.int .i64 x.chunk,.bool x.stale,.bool x.pool,.bool x.log,.bool x.mode,.bool x.done] 183));have HG:Hid ((W1.alloc (.cells #[.int .i64 x.least,.int .i64 x.greatest,.bool x.F9,.bool x.several,.int .i64 x.chunk,.bool x.stale,.bool x.pool,.bool x.log,.bool x.mode,.bool x.done] 183)).drew.heap[w.heap.size]?=some (.cells #[.int .i64 s.start,.int .i64 s.length,.int .i64 s.kind,.slice ap s.Ga.length ac,.int .i64 s.chunk,.slice stp s.stale.length stc,.string s.log,.string s.pool,.int .i64 s.device,.int .i64 s.mode,.int .i64 s.done] 79 (0,0))):=aa ((Below.heap_alloc _ _ _ hwl).trans (by show W1.heap[w.heap.size]?=_;rw [← HW1.out];exact heap_alloc_new w _));have hz:(W1.alloc (.cells #[.int .i64 x.least,.int .i64 x.greatest,.bool x.F9,.bool x.several,.int .i64 x.chunk,.bool x.stale,.bool x.pool,.bool x.log,.bool x.mode,.bool x.done] 183)).drew.heap.size=W1.heap.size+1:=by simp
 have HN:Hid ((W1.alloc (.cells #[.int .i64 x.least,.int .i64 x.greatest,.bool x.F9,.bool x.several,.int .i64 x.chunk,.bool x.stale,.bool x.pool,.bool x.log,.bool x.mode,.bool x.done] 183)).drew.heap[W1.heap.size]?=some (.cells #[.int .i64 x.least,.int .i64 x.greatest,.bool x.F9,.bool x.several,.int .i64 x.chunk,.bool x.stale,.bool x.pool,.bool x.log,.bool x.mode,.bool x.done] 183 (0,0))):=HN;clear hk2 hk3 HB2 HS HLK;generalize hW2:World.drew (World.alloc W1 _)=W2 at *;generalize hBs:W1.heap.size=Bs at *;clear hW2 hBs HW1
 have hx7:∀ (j:Nat) (z:Value),[.int .i64 x.least,.int .i64 x.greatest,.bool x.F9,.bool x.several,.int .i64 x.chunk,.bool x.stale,.bool x.pool,.bool x.log,.bool x.mode,.bool x.done][j]?=some z→∀ wr:World,wr.heap[Bs]?=W2.heap[Bs]?→wr.cell? ⟨Bs,j,none⟩=some z:=fun j z hz wr hwr=>by
  simp only [World.cell?,hwr,HN.out];simpa using hz
 have hs7:∀ (j:Nat) (z:Value),[.int .i64 s.start,.int .i64 s.length,.int .i64 s.kind,.slice ap s.Ga.length ac,.int .i64 s.chunk,.slice stp s.stale.length stc,.string s.log,.string s.pool,.int .i64 s.device,.int .i64 s.mode,.int .i64 s.done][j]?=some z→∀ wr:World,wr.heap[w.heap.size]?=W2.heap[w.heap.size]?→wr.cell? ⟨w.heap.size,j,none⟩=some z:=fun j z hz wr hwr=>by
  simp only [World.cell?,hwr,HG.out];simpa using hz
 have HX7:=aa hx7;clear hx7;have HS7:=aa hs7;clear hs7;have x0:=HX7.out 0 _ rfl W2 rfl;have x1:=HX7.out 1 _ rfl W2 rfl;have s0:=HS7.out 0 _ rfl W2 rfl;have s1:=HS7.out 1 _ rfl W2 rfl;have s3:=HS7.out 3 _ rfl W2 rfl;cases hso:shapeOf s.kind with
 | none =>
  have hi:(eH (.int .i64 s.kind)).isSome=false:=by rw [show eH (.int .i64 s.kind)=(shapeOf s.kind).map jR from rfl,hso];rfl
  have HF:Hid (bJ g.Gd s start=false):=aa (jT hso);have HSO:=aa hso;clear hso;generalize (eH (.int .i64 s.kind)).isSome=isx at *;subst hi;go_wp2;go_ret;exact ⟨ah HF.out.symm,HB3.out⟩
 | some x' =>
  have hi:(eH (.int .i64 s.kind)).isSome=true:=by rw [show eH (.int .i64 s.kind)=(shapeOf s.kind).map jR from rfl,hso];rfl
  obtain rfl:x=x':=by rw [HX.out];simp [oO,hso]
  have HF:Hid (bJ g.Gd s start=_):=aa (jP hso);have HSO:=aa hso;clear hso HX;generalize (eH (.int .i64 s.kind)).isSome=isx at *;subst hi
  by_cases c1:s.start=start
  ·skip
   by_cases c2:1≤s.length
   ·skip
    by_cases c3:s.length≤32768
    ·skip
     by_cases c4:x.least≤(s.Ga.length:Int)
     ·skip
      by_cases c5:(s.Ga.length:Int)≤x.greatest
      ·skip
       have HL0:Hid (0≤s.length):=aa (by omega);have HC4:=aa c4;have d1:(s.start != start)=false:=by simp [c1]
       have d2:decide (s.length<1)=false:=by simp;omega
       have d3:decide (32768<s.length)=false:=by simp;omega
       have d4:decide ((s.Ga.length:Int)<x.least)=false:=by simp;omega
       have d5:decide (x.greatest<(s.Ga.length:Int))=false:=by simp;omega
       have C1:=aa c1;clear c1;cases hxv:x.F9 with
       | true =>
        have HXV:=aa hxv;clear hxv;have x2:=HX7.out 2 _ rfl W2 rfl;rw [HXV.out] at x2;go_wp2
        go_loopw [59] (fun i wr=>∃ k:Nat,k≤s.Ga.length∧i=.int .i64 k∧(∀ j r,j<k→s.Ga[j]?=some r→bT x r=true)∧Below w.heap.size w wr∧wr.heap[w.heap.size]?=W2.heap[w.heap.size]?∧wr.heap[Bs]?=W2.heap[Bs]?∧Bs<wr.heap.size) (fun i _=>s.Ga.length - (intOf i).toNat)
        case atStart=>exact ⟨0,Nat.zero_le _,rfl,fun j r hj=>by omega,HB3.out,rfl,rfl,by omega⟩
        case round =>
         clear x0 x1 x2 s0 s1 s3;obtain ⟨k,hk,rfl,hall,hB,hw1,hw2,hbz⟩:=hrel;have HALL:=aa hall;clear hall;have HW1:=aa hw1;clear hw1;have HW2:=aa hw2;clear hw2
         by_cases hlt:k<s.Ga.length
         ·obtain ⟨r,hr⟩:=aj s.Ga k hlt
          obtain ⟨b,off,us,rfl,_,hbw,hul,hvs,hcv⟩:=HAR.out.elem hr;obtain rfl:us=_:=hvs;have hbk:wr.heap[b]?=w.heap[b]?:=hB.block b hbw;have q0:=bK hbk (hcv 0 _ rfl);have q1:=ai hbk (hcv 1 _ rfl);have q2:=ai hbk (hcv 2 _ rfl);have x2:=HX7.out 2 _ rfl wr HW2.out;rw [HXV.out] at x2
          have bad:Hid (bT x r=false→bJ g.Gd s start=false):=aa fun h=>by
           have:s.Ga.all (bT x)=false:=by
            rw [List.all_eq_false];exact ⟨r,List.mem_of_getElem? hr,by simp [h]⟩
           rw [HF.out,this];simp
          have good:Hid (bT x r=true→∀ j y,j<k+1→s.Ga[j]?=some y→bT x y=true):=aa fun h j y hj hy=>by
           by_cases hjk:j=k
           ·subst hjk
            rw [hr] at hy;cases hy
            exact h
           ·exact HALL.out j y (by omega) hy
          have HBN:=aa (hB.alloc hB.size (.cells #[.bool r.vol,.string r.on,.int .i64 r.start] 60));have HO:Hid (bT x r=_):=aa (bT.eq_1 x r);clear hcv hul hr hbk
          have rel:Hid (∀ o:Obj,bT x r=true→∃ k':Nat,k'≤s.Ga.length∧Value.int .i64 ((k:Int)+1)=.int .i64 k'∧(∀ j y,j<k'→s.Ga[j]?=some y→bT x y=true)∧Below w.heap.size w (wr.alloc o)∧(wr.alloc o).heap[w.heap.size]?=W2.heap[w.heap.size]?∧(wr.alloc o).heap[Bs]?=W2.heap[Bs]?∧Bs<(wr.alloc o).heap.size):=aa fun o h =>
           ⟨k+1,by omega,by go_num,good.out h,hB.alloc hB.size _,(Below.heap_alloc _ _ _ (by omega)).trans HW1.out,(Below.heap_alloc _ _ _ hbz).trans HW2.out,by simp;omega⟩
          cases hv:r.vol with
          | true =>
           have HV:=aa hv
           by_cases hs:r.start=0
           ·have HOK:Hid (bT x r=true):=aa (by rw [HO.out,HXV.out,HV.out,hs];simp)
            have e2:(r.start != 0)=false:=by simp [hs]
            have HS0:=aa hs;clear hs;go_wp2;go_roundw
            case rel=>exact rel.out _ HOK.out
            case measure=>simp [intOf];omega
           ·have HOK:Hid (bT x r=false):=aa (by rw [HO.out,HV.out];simp [hs])
            have e2:(r.start != 0)=true:=by simp [hs]
            go_wp2;go_ret;exact ⟨ah (bad.out HOK.out).symm,hB.alloc hB.size _⟩
          | false =>
           have HV:=aa hv;have HOK:Hid (bT x r=false):=aa (by rw [HO.out,HXV.out,HV.out];simp);go_wp2;go_ret;exact ⟨ah (bad.out HOK.out).symm,hB.alloc hB.size _⟩
         ·have hkn:k=s.Ga.length:=by omega
          have HAA:Hid (s.Ga.all (bT x)=true):=aa (by
           rw [List.all_eq_true];intro r hr;obtain ⟨j,hj⟩:=List.getElem?_of_mem hr
           exact HALL.out j r (by have:=(List.getElem?_eq_some_iff.1 hj).1;omega) hj)
          have HF2:Hid (bJ g.Gd s start=(fq g.Gd s.chunk x&&(x.log||s.log.toList.isEmpty)&&(x.pool||s.pool.toList.isEmpty)&&dP s x&&bE s.device 1 65535 x.pool&&bE s.mode 1 2 x.mode&&bE s.done 0 s.length x.done &&
            !(s.kind == 2&&!(s.length % s.Ga.length == 0))&&!(s.kind == 4&&!(s.length % (s.Ga.length - 1) == 0)))):=aa (by
           rw [HF.out,HAA.out,C1.out,decide_eq_true c2,decide_eq_true c3,decide_eq_true c4,decide_eq_true c5]
           simp)
          clear HF HAA HALL;have s0:=HS7.out 0 _ rfl wr HW1.out;have s1:=HS7.out 1 _ rfl wr HW1.out;have s2:=HS7.out 2 _ rfl wr HW1.out;have s3:=HS7.out 3 _ rfl wr HW1.out;have s4:=HS7.out 4 _ rfl wr HW1.out;have s5:=HS7.out 5 _ rfl wr HW1.out;have s6:=HS7.out 6 _ rfl wr HW1.out;have s7:=HS7.out 7 _ rfl wr HW1.out;have s8:=HS7.out 8 _ rfl wr HW1.out;have s9:=HS7.out 9 _ rfl wr HW1.out;have s10:=HS7.out 10 _ rfl wr HW1.out;have x0:=HX7.out 0 _ rfl wr HW2.out;have x1:=HX7.out 1 _ rfl wr HW2.out;have x2:=HX7.out 2 _ rfl wr HW2.out;have x3:=HX7.out 3 _ rfl wr HW2.out;have x4:=HX7.out 4 _ rfl wr HW2.out;have x5:=HX7.out 5 _ rfl wr HW2.out;have x6:=HX7.out 6 _ rfl wr HW2.out;have x7:=HX7.out 7 _ rfl wr HW2.out;have x8:=HX7.out 8 _ rfl wr HW2.out;have x9:=HX7.out 9 _ rfl wr HW2.out
          go_wp2_with fail
          refine (ni g a bc s x _ _ _ (HCK.out.below hB) hg0 hg1 (bC.moves.mv (Mv.of hB) HV.out) (by simp [dm,HXV.out])).mono ?_;rintro e w3 ⟨rfl,hb3⟩;have HB4:=aa (hB.trans (hb3.mono hB.size));have HP1:=aa ((hb3.block _ (by omega)).trans HW1.out);have HP2:=aa ((hb3.block _ hbz).trans HW2.out);have HZ4:Hid (Bs<w3.heap.size):=aa (Nat.lt_of_lt_of_le hbz hb3.size);clear hb3 HW1 HW2 hB;clear s0 s1 s2 s3 s4 s5 s6 s7 s8 s9 s10 x0 x1 x2 x3 x4 x5 x6 x7 x8 x9;have s0:=HS7.out 0 _ rfl w3 HP1.out;have s1:=HS7.out 1 _ rfl w3 HP1.out;have s2:=HS7.out 2 _ rfl w3 HP1.out;have s3:=HS7.out 3 _ rfl w3 HP1.out;have s4:=HS7.out 4 _ rfl w3 HP1.out;have s5:=HS7.out 5 _ rfl w3 HP1.out;have s6:=HS7.out 6 _ rfl w3 HP1.out;have s7:=HS7.out 7 _ rfl w3 HP1.out;have s8:=HS7.out 8 _ rfl w3 HP1.out;have s9:=HS7.out 9 _ rfl w3 HP1.out;have s10:=HS7.out 10 _ rfl w3 HP1.out;have x0:=HX7.out 0 _ rfl w3 HP2.out;have x1:=HX7.out 1 _ rfl w3 HP2.out;have x2:=HX7.out 2 _ rfl w3 HP2.out;have x3:=HX7.out 3 _ rfl w3 HP2.out;have x4:=HX7.out 4 _ rfl w3 HP2.out;have x5:=HX7.out 5 _ rfl w3 HP2.out;have x6:=HX7.out 6 _ rfl w3 HP2.out;have x7:=HX7.out 7 _ rfl w3 HP2.out;have x8:=HX7.out 8 _ rfl w3 HP2.out;have x9:=HX7.out 9 _ rfl w3 HP2.out;cases hcb:fq g.Gd s.chunk x with
          | false =>
           go_wp2;go_ret;exact ⟨ah (by rw [HF2.out,hcb];simp),HB4.out⟩
          | true =>
           rw [hcb] at HF2;clear hcb;have HPO:Hid (x.pool=false):=aa ((wE HSO.out).1 HXV.out);have hpo:=HPO.out;cases hlg:x.log with
           | true =>
            have HLG:=aa hlg;have HLX:Hid ((x.log||s.log.toList.isEmpty)=true):=aa (by rw [hlg];rfl);cases hpe:s.pool.toList.isEmpty with
            | true =>
             have HPX:Hid ((x.pool||s.pool.toList.isEmpty)=true):=aa (by rw [hpe];simp)
             go_wp2_with fail
             refine (jb s x _ _ _ (bC.moves.mv (Mv.of HB4.out) HV.out) ha hl (by simp [dm,HLG.out,HPO.out,HXV.out])).mono ?_;rintro e w5 ⟨rfl,hb5⟩;have HB5:=aa (HB4.out.trans (hb5.mono HB4.out.size));have HQ1:=aa ((hb5.block _ (by have:=HB4.out.size;have:=HZ4.out;omega)).trans HP1.out);have HQ2:=aa ((hb5.block _ HZ4.out).trans HP2.out);clear hb5;clear s0 s1 s2 s3 s4 s5 s6 s7 s8 s9 s10 x0 x1 x2 x3 x4 x5 x6 x7 x8 x9;have s1:=HS7.out 1 _ rfl w5 HQ1.out;have s2:=HS7.out 2 _ rfl w5 HQ1.out;have s3:=HS7.out 3 _ rfl w5 HQ1.out;have s8:=HS7.out 8 _ rfl w5 HQ1.out;have s9:=HS7.out 9 _ rfl w5 HQ1.out;have s10:=HS7.out 10 _ rfl w5 HQ1.out;have x6:=HX7.out 6 _ rfl w5 HQ2.out;have x8:=HX7.out 8 _ rfl w5 HQ2.out;have x9:=HX7.out 9 _ rfl w5 HQ2.out;cases hmk:dP s x with
             | false =>
              go_wp2;go_ret;exact ⟨ah (by rw [HF2.out,hmk];simp),HB5.out⟩
             | true =>
              have HMK:=aa hmk;clear hmk
              go_wp2_with fail
              refine (di _ _ _ _ _).mono ?_;rintro e w6 ⟨rfl,rfl⟩;cases hw1:bE s.device 1 65535 false with
              | false =>
               go_wp2;go_ret;exact ⟨ah (by rw [HF2.out,HPO.out,hw1];simp),HB5.out⟩
              | true =>
               have HW1:=aa hw1;clear hw1
               go_wp2_with fail
               refine (di _ _ _ _ _).mono ?_;rintro e w6 ⟨rfl,rfl⟩;cases hw2:bE s.mode 1 2 x.mode with
               | false =>
                go_wp2;go_ret;exact ⟨ah (by rw [HF2.out,hw2];simp),HB5.out⟩
               | true =>
                have HW2':=aa hw2;clear hw2
                go_wp2_with fail
                refine (di _ _ _ _ _).mono ?_;rintro e w6 ⟨rfl,rfl⟩;cases hw3:bE s.done 0 s.length x.done with
                | false =>
                 go_wp2;go_ret;exact ⟨ah (by rw [HF2.out,hw3];simp),HB5.out⟩
                | true =>
                 have HF3:Hid (bJ g.Gd s start=(!(s.kind == 2&&!(s.length % s.Ga.length == 0))&&!(s.kind == 4&&!(s.length % (s.Ga.length - 1) == 0)))):=aa (by rw [HF2.out,HLX.out,HPX.out,HMK.out,HPO.out,HW1.out,HW2'.out,hw3];simp);clear HMK HW1 HW2' hw3 HF2 HLX HPX
                 by_cases hk2:s.kind=2
                 ·have hk2b:(s.kind == 2)=true:=by simpa using hk2
                  have hk4b:(s.kind == 4)=false:=by rw [hk2];rfl
                  have hal:2≤s.Ga.length:=by
                   have:=HSO.out;rw [hk2] at this;have:=lu this;have:=HC4.out;omega
                  have e0:((s.Ga.length:Int) == 0)=false:=by rw [beq_eq_false_iff_ne];omega
                  have e1:s.length.tmod (s.Ga.length:Int)=s.length % (s.Ga.length:Int):=Int.tmod_eq_emod_of_nonneg HL0.out;cases hm:(s.length % (s.Ga.length:Int) == 0) with
                  | true =>
                   have hmn:(s.length % (s.Ga.length:Int) != 0)=false:=by simpa using hm
                   have HR:Hid (bJ g.Gd s start=true):=aa (by rw [HF3.out,hk4b,hm];simp);go_wp2;go_ret;exact ⟨ah HR.out.symm,HB5.out⟩
                  | false =>
                   have hmn:(s.length % (s.Ga.length:Int) != 0)=true:=by simpa using hm
                   have HR:Hid (bJ g.Gd s start=false):=aa (by rw [HF3.out,hk2b,hm];simp);go_wp2;go_ret;exact ⟨ah HR.out.symm,HB5.out⟩
                 ·have hk2b:(s.kind == 2)=false:=by simpa using hk2
                  by_cases hk4:s.kind=4
                  ·have hk4b:(s.kind == 4)=true:=by simpa using hk4
                   have hal:3≤s.Ga.length:=by
                    have:=HSO.out;rw [hk4] at this;have:=kC this;have:=HC4.out;omega
                   have e0:((s.Ga.length:Int) - 1 == 0)=false:=by simp;omega
                   have e1:s.length.tmod ((s.Ga.length:Int) - 1)=s.length % ((s.Ga.length:Int) - 1):=Int.tmod_eq_emod_of_nonneg HL0.out;cases hm:(s.length % ((s.Ga.length:Int) - 1) == 0) with
                   | true =>
                    have hmn:(s.length % ((s.Ga.length:Int) - 1) != 0)=false:=by simpa using hm
                    have HR:Hid (bJ g.Gd s start=true):=aa (by rw [HF3.out,hk2b,hm];simp);go_wp2;go_ret;exact ⟨ah HR.out.symm,HB5.out⟩
                   | false =>
                    have hmn:(s.length % ((s.Ga.length:Int) - 1) != 0)=true:=by simpa using hm
                    have HR:Hid (bJ g.Gd s start=false):=aa (by rw [HF3.out,hk4b,hm];simp);go_wp2;go_ret;exact ⟨ah HR.out.symm,HB5.out⟩
                  ·have hk4b:(s.kind == 4)=false:=by simpa using hk4
                   have HR:Hid (bJ g.Gd s start=true):=aa (by rw [HF3.out,hk2b,hk4b];rfl);go_wp2;go_ret;exact ⟨ah HR.out.symm,HB5.out⟩
            | false =>
             go_wp2;go_ret;exact ⟨ah (by rw [HF2.out,hpo,hpe];simp),HB4.out⟩
           | false =>
            have HLG:=aa hlg;cases hle:s.log.toList.isEmpty with
            | true =>
             have HLX:Hid ((x.log||s.log.toList.isEmpty)=true):=aa (by rw [hle];simp);cases hpe:s.pool.toList.isEmpty with
             | true =>
              have HPX:Hid ((x.pool||s.pool.toList.isEmpty)=true):=aa (by rw [hpe];simp)
              go_wp2_with fail
              refine (jb s x _ _ _ (bC.moves.mv (Mv.of HB4.out) HV.out) ha hl (by simp [dm,HLG.out,HPO.out,HXV.out])).mono ?_;rintro e w5 ⟨rfl,hb5⟩;have HB5:=aa (HB4.out.trans (hb5.mono HB4.out.size));have HQ1:=aa ((hb5.block _ (by have:=HB4.out.size;have:=HZ4.out;omega)).trans HP1.out);have HQ2:=aa ((hb5.block _ HZ4.out).trans HP2.out);clear hb5;clear s0 s1 s2 s3 s4 s5 s6 s7 s8 s9 s10 x0 x1 x2 x3 x4 x5 x6 x7 x8 x9;have s1:=HS7.out 1 _ rfl w5 HQ1.out;have s2:=HS7.out 2 _ rfl w5 HQ1.out;have s3:=HS7.out 3 _ rfl w5 HQ1.out;have s8:=HS7.out 8 _ rfl w5 HQ1.out;have s9:=HS7.out 9 _ rfl w5 HQ1.out;have s10:=HS7.out 10 _ rfl w5 HQ1.out;have x6:=HX7.out 6 _ rfl w5 HQ2.out;have x8:=HX7.out 8 _ rfl w5 HQ2.out;have x9:=HX7.out 9 _ rfl w5 HQ2.out;cases hmk:dP s x with
              | false =>
               go_wp2;go_ret;exact ⟨ah (by rw [HF2.out,hmk];simp),HB5.out⟩
              | true =>
               have HMK:=aa hmk;clear hmk
               go_wp2_with fail
               refine (di _ _ _ _ _).mono ?_;rintro e w6 ⟨rfl,rfl⟩;cases hw1:bE s.device 1 65535 false with
               | false =>
                go_wp2;go_ret;exact ⟨ah (by rw [HF2.out,HPO.out,hw1];simp),HB5.out⟩
               | true =>
                have HW1:=aa hw1;clear hw1
                go_wp2_with fail
                refine (di _ _ _ _ _).mono ?_;rintro e w6 ⟨rfl,rfl⟩;cases hw2:bE s.mode 1 2 x.mode with
                | false =>
                 go_wp2;go_ret;exact ⟨ah (by rw [HF2.out,hw2];simp),HB5.out⟩
                | true =>
                 have HW2':=aa hw2;clear hw2
                 go_wp2_with fail
                 refine (di _ _ _ _ _).mono ?_;rintro e w6 ⟨rfl,rfl⟩;cases hw3:bE s.done 0 s.length x.done with
                 | false =>
                  go_wp2;go_ret;exact ⟨ah (by rw [HF2.out,hw3];simp),HB5.out⟩
                 | true =>
                  have HF3:Hid (bJ g.Gd s start=(!(s.kind == 2&&!(s.length % s.Ga.length == 0))&&!(s.kind == 4&&!(s.length % (s.Ga.length - 1) == 0)))):=aa (by rw [HF2.out,HLX.out,HPX.out,HMK.out,HPO.out,HW1.out,HW2'.out,hw3];simp);clear HMK HW1 HW2' hw3 HF2 HLX HPX
                  by_cases hk2:s.kind=2
                  ·have hk2b:(s.kind == 2)=true:=by simpa using hk2
                   have hk4b:(s.kind == 4)=false:=by rw [hk2];rfl
                   have hal:2≤s.Ga.length:=by
                    have:=HSO.out;rw [hk2] at this;have:=lu this;have:=HC4.out;omega
                   have e0:((s.Ga.length:Int) == 0)=false:=by rw [beq_eq_false_iff_ne];omega
                   have e1:s.length.tmod (s.Ga.length:Int)=s.length % (s.Ga.length:Int):=Int.tmod_eq_emod_of_nonneg HL0.out;cases hm:(s.length % (s.Ga.length:Int) == 0) with
                   | true =>
                    have hmn:(s.length % (s.Ga.length:Int) != 0)=false:=by simpa using hm
                    have HR:Hid (bJ g.Gd s start=true):=aa (by rw [HF3.out,hk4b,hm];simp);go_wp2;go_ret;exact ⟨ah HR.out.symm,HB5.out⟩
                   | false =>
                    have hmn:(s.length % (s.Ga.length:Int) != 0)=true:=by simpa using hm
                    have HR:Hid (bJ g.Gd s start=false):=aa (by rw [HF3.out,hk2b,hm];simp);go_wp2;go_ret;exact ⟨ah HR.out.symm,HB5.out⟩
                  ·have hk2b:(s.kind == 2)=false:=by simpa using hk2
                   by_cases hk4:s.kind=4
                   ·have hk4b:(s.kind == 4)=true:=by simpa using hk4
                    have hal:3≤s.Ga.length:=by
                     have:=HSO.out;rw [hk4] at this;have:=kC this;have:=HC4.out;omega
                    have e0:((s.Ga.length:Int) - 1 == 0)=false:=by simp;omega
                    have e1:s.length.tmod ((s.Ga.length:Int) - 1)=s.length % ((s.Ga.length:Int) - 1):=Int.tmod_eq_emod_of_nonneg HL0.out;cases hm:(s.length % ((s.Ga.length:Int) - 1) == 0) with
                    | true =>
                     have hmn:(s.length % ((s.Ga.length:Int) - 1) != 0)=false:=by simpa using hm
                     have HR:Hid (bJ g.Gd s start=true):=aa (by rw [HF3.out,hk2b,hm];simp);go_wp2;go_ret;exact ⟨ah HR.out.symm,HB5.out⟩
                    | false =>
                     have hmn:(s.length % ((s.Ga.length:Int) - 1) != 0)=true:=by simpa using hm
                     have HR:Hid (bJ g.Gd s start=false):=aa (by rw [HF3.out,hk4b,hm];simp);go_wp2;go_ret;exact ⟨ah HR.out.symm,HB5.out⟩
                   ·have hk4b:(s.kind == 4)=false:=by simpa using hk4
                    have HR:Hid (bJ g.Gd s start=true):=aa (by rw [HF3.out,hk2b,hk4b];rfl);go_wp2;go_ret;exact ⟨ah HR.out.symm,HB5.out⟩
             | false =>
              go_wp2;go_ret;exact ⟨ah (by rw [HF2.out,hpo,hpe];simp),HB4.out⟩
            | false =>
             go_wp2;go_ret;exact ⟨ah (by rw [HF2.out,hlg,hle];simp),HB4.out⟩
       | false =>
        have HXV:=aa hxv;clear hxv;have x2:=HX7.out 2 _ rfl W2 rfl;rw [HXV.out] at x2;go_wp2
        go_loopw [59] (fun i wr=>∃ k:Nat,k≤s.Ga.length∧i=.int .i64 k∧(∀ j r,j<k→s.Ga[j]?=some r→bT x r=true)∧Below w.heap.size w wr∧wr.heap[w.heap.size]?=W2.heap[w.heap.size]?∧wr.heap[Bs]?=W2.heap[Bs]?∧Bs<wr.heap.size) (fun i _=>s.Ga.length - (intOf i).toNat)
        case atStart=>exact ⟨0,Nat.zero_le _,rfl,fun j r hj=>by omega,HB3.out,rfl,rfl,by omega⟩
        case round =>
         clear x0 x1 x2 s0 s1 s3;obtain ⟨k,hk,rfl,hall,hB,hw1,hw2,hbz⟩:=hrel;have HALL:=aa hall;clear hall;have HW1:=aa hw1;clear hw1;have HW2:=aa hw2;clear hw2
         by_cases hlt:k<s.Ga.length
         ·obtain ⟨r,hr⟩:=aj s.Ga k hlt
          obtain ⟨b,off,us,rfl,_,hbw,hul,hvs,hcv⟩:=HAR.out.elem hr;obtain rfl:us=_:=hvs;have hbk:wr.heap[b]?=w.heap[b]?:=hB.block b hbw;have q0:=bK hbk (hcv 0 _ rfl);have q1:=ai hbk (hcv 1 _ rfl);have q2:=ai hbk (hcv 2 _ rfl);have x2:=HX7.out 2 _ rfl wr HW2.out;rw [HXV.out] at x2
          have bad:Hid (bT x r=false→bJ g.Gd s start=false):=aa fun h=>by
           have:s.Ga.all (bT x)=false:=by
            rw [List.all_eq_false];exact ⟨r,List.mem_of_getElem? hr,by simp [h]⟩
           rw [HF.out,this];simp
          have good:Hid (bT x r=true→∀ j y,j<k+1→s.Ga[j]?=some y→bT x y=true):=aa fun h j y hj hy=>by
           by_cases hjk:j=k
           ·subst hjk
            rw [hr] at hy;cases hy
            exact h
           ·exact HALL.out j y (by omega) hy
          have HBN:=aa (hB.alloc hB.size (.cells #[.bool r.vol,.string r.on,.int .i64 r.start] 60));have HO:Hid (bT x r=_):=aa (bT.eq_1 x r);clear hcv hul hr hbk
          have rel:Hid (∀ o:Obj,bT x r=true→∃ k':Nat,k'≤s.Ga.length∧Value.int .i64 ((k:Int)+1)=.int .i64 k'∧(∀ j y,j<k'→s.Ga[j]?=some y→bT x y=true)∧Below w.heap.size w (wr.alloc o)∧(wr.alloc o).heap[w.heap.size]?=W2.heap[w.heap.size]?∧(wr.alloc o).heap[Bs]?=W2.heap[Bs]?∧Bs<(wr.alloc o).heap.size):=aa fun o h =>
           ⟨k+1,by omega,by go_num,good.out h,hB.alloc hB.size _,(Below.heap_alloc _ _ _ (by omega)).trans HW1.out,(Below.heap_alloc _ _ _ hbz).trans HW2.out,by simp;omega⟩
          cases hv:r.vol with
          | true =>
           have HV:=aa hv;have HOK:Hid (bT x r=false):=aa (by rw [HO.out,HXV.out,HV.out];simp);go_wp2;go_ret;exact ⟨ah (bad.out HOK.out).symm,hB.alloc hB.size _⟩
          | false =>
           have HV:=aa hv;have HOK:Hid (bT x r=true):=aa (by rw [HO.out,HXV.out,HV.out];simp);go_wp2;go_roundw
           case rel=>exact rel.out _ HOK.out
           case measure=>simp [intOf];omega
         ·have hkn:k=s.Ga.length:=by omega
          have HAA:Hid (s.Ga.all (bT x)=true):=aa (by
           rw [List.all_eq_true];intro r hr;obtain ⟨j,hj⟩:=List.getElem?_of_mem hr
           exact HALL.out j r (by have:=(List.getElem?_eq_some_iff.1 hj).1;omega) hj)
          have HF2:Hid (bJ g.Gd s start=(fq g.Gd s.chunk x&&(x.log||s.log.toList.isEmpty)&&(x.pool||s.pool.toList.isEmpty)&&dP s x&&bE s.device 1 65535 x.pool&&bE s.mode 1 2 x.mode&&bE s.done 0 s.length x.done &&
            !(s.kind == 2&&!(s.length % s.Ga.length == 0))&&!(s.kind == 4&&!(s.length % (s.Ga.length - 1) == 0)))):=aa (by
           rw [HF.out,HAA.out,C1.out,decide_eq_true c2,decide_eq_true c3,decide_eq_true c4,decide_eq_true c5]
           simp)
          clear HF HAA HALL;have s0:=HS7.out 0 _ rfl wr HW1.out;have s1:=HS7.out 1 _ rfl wr HW1.out;have s2:=HS7.out 2 _ rfl wr HW1.out;have s3:=HS7.out 3 _ rfl wr HW1.out;have s4:=HS7.out 4 _ rfl wr HW1.out;have s5:=HS7.out 5 _ rfl wr HW1.out;have s6:=HS7.out 6 _ rfl wr HW1.out;have s7:=HS7.out 7 _ rfl wr HW1.out;have s8:=HS7.out 8 _ rfl wr HW1.out;have s9:=HS7.out 9 _ rfl wr HW1.out;have s10:=HS7.out 10 _ rfl wr HW1.out;have x0:=HX7.out 0 _ rfl wr HW2.out;have x1:=HX7.out 1 _ rfl wr HW2.out;have x2:=HX7.out 2 _ rfl wr HW2.out;have x3:=HX7.out 3 _ rfl wr HW2.out;have x4:=HX7.out 4 _ rfl wr HW2.out;have x5:=HX7.out 5 _ rfl wr HW2.out;have x6:=HX7.out 6 _ rfl wr HW2.out;have x7:=HX7.out 7 _ rfl wr HW2.out;have x8:=HX7.out 8 _ rfl wr HW2.out;have x9:=HX7.out 9 _ rfl wr HW2.out
          go_wp2_with fail
          refine (ni g a bc s x _ _ _ (HCK.out.below hB) hg0 hg1 (bC.moves.mv (Mv.of hB) HV.out) (by simp [dm,HXV.out])).mono ?_;rintro e w3 ⟨rfl,hb3⟩;have HB4:=aa (hB.trans (hb3.mono hB.size));have HP1:=aa ((hb3.block _ (by omega)).trans HW1.out);have HP2:=aa ((hb3.block _ hbz).trans HW2.out);have HZ4:Hid (Bs<w3.heap.size):=aa (Nat.lt_of_lt_of_le hbz hb3.size);clear hb3 HW1 HW2 hB;clear s0 s1 s2 s3 s4 s5 s6 s7 s8 s9 s10 x0 x1 x2 x3 x4 x5 x6 x7 x8 x9;have s0:=HS7.out 0 _ rfl w3 HP1.out;have s1:=HS7.out 1 _ rfl w3 HP1.out;have s2:=HS7.out 2 _ rfl w3 HP1.out;have s3:=HS7.out 3 _ rfl w3 HP1.out;have s4:=HS7.out 4 _ rfl w3 HP1.out;have s5:=HS7.out 5 _ rfl w3 HP1.out;have s6:=HS7.out 6 _ rfl w3 HP1.out;have s7:=HS7.out 7 _ rfl w3 HP1.out;have s8:=HS7.out 8 _ rfl w3 HP1.out;have s9:=HS7.out 9 _ rfl w3 HP1.out;have s10:=HS7.out 10 _ rfl w3 HP1.out;have x0:=HX7.out 0 _ rfl w3 HP2.out;have x1:=HX7.out 1 _ rfl w3 HP2.out;have x2:=HX7.out 2 _ rfl w3 HP2.out;have x3:=HX7.out 3 _ rfl w3 HP2.out;have x4:=HX7.out 4 _ rfl w3 HP2.out;have x5:=HX7.out 5 _ rfl w3 HP2.out;have x6:=HX7.out 6 _ rfl w3 HP2.out;have x7:=HX7.out 7 _ rfl w3 HP2.out;have x8:=HX7.out 8 _ rfl w3 HP2.out;have x9:=HX7.out 9 _ rfl w3 HP2.out;cases hcb:fq g.Gd s.chunk x with
          | false =>
           go_wp2;go_ret;exact ⟨ah (by rw [HF2.out,hcb];simp),HB4.out⟩
          | true =>
           rw [hcb] at HF2;clear hcb;have HLG:Hid (x.log=false):=aa ((wE HSO.out).2 HXV.out);have hlg:=HLG.out;cases hle:s.log.toList.isEmpty with
           | false =>
            go_wp2;go_ret;exact ⟨ah (by rw [HF2.out,hlg,hle];simp),HB4.out⟩
           | true =>
            have HLX:Hid ((x.log||s.log.toList.isEmpty)=true):=aa (by rw [hle];simp);cases hpo:x.pool with
            | true =>
             have HPO:=aa hpo;have HPX:Hid ((x.pool||s.pool.toList.isEmpty)=true):=aa (by rw [hpo];rfl)
             go_wp2_with fail
             refine (jb s x _ _ _ (bC.moves.mv (Mv.of HB4.out) HV.out) ha hl (by simp [dm,HLG.out,HPO.out,HXV.out])).mono ?_;rintro e w5 ⟨rfl,hb5⟩;have HB5:=aa (HB4.out.trans (hb5.mono HB4.out.size));have HQ1:=aa ((hb5.block _ (by have:=HB4.out.size;have:=HZ4.out;omega)).trans HP1.out);have HQ2:=aa ((hb5.block _ HZ4.out).trans HP2.out);clear hb5;clear s0 s1 s2 s3 s4 s5 s6 s7 s8 s9 s10 x0 x1 x2 x3 x4 x5 x6 x7 x8 x9;have s1:=HS7.out 1 _ rfl w5 HQ1.out;have s2:=HS7.out 2 _ rfl w5 HQ1.out;have s3:=HS7.out 3 _ rfl w5 HQ1.out;have s8:=HS7.out 8 _ rfl w5 HQ1.out;have s9:=HS7.out 9 _ rfl w5 HQ1.out;have s10:=HS7.out 10 _ rfl w5 HQ1.out;have x6:=HX7.out 6 _ rfl w5 HQ2.out;have x8:=HX7.out 8 _ rfl w5 HQ2.out;have x9:=HX7.out 9 _ rfl w5 HQ2.out;cases hmk:dP s x with
             | false =>
              go_wp2;go_ret;exact ⟨ah (by rw [HF2.out,hmk];simp),HB5.out⟩
             | true =>
              have HMK:=aa hmk;clear hmk
              go_wp2_with fail
              refine (di _ _ _ _ _).mono ?_;rintro e w6 ⟨rfl,rfl⟩;cases hw1:bE s.device 1 65535 true with
              | false =>
               go_wp2;go_ret;exact ⟨ah (by rw [HF2.out,HPO.out,hw1];simp),HB5.out⟩
              | true =>
               have HW1:=aa hw1;clear hw1
               go_wp2_with fail
               refine (di _ _ _ _ _).mono ?_;rintro e w6 ⟨rfl,rfl⟩;cases hw2:bE s.mode 1 2 x.mode with
               | false =>
                go_wp2;go_ret;exact ⟨ah (by rw [HF2.out,hw2];simp),HB5.out⟩
               | true =>
                have HW2':=aa hw2;clear hw2
                go_wp2_with fail
                refine (di _ _ _ _ _).mono ?_;rintro e w6 ⟨rfl,rfl⟩;cases hw3:bE s.done 0 s.length x.done with
                | false =>
                 go_wp2;go_ret;exact ⟨ah (by rw [HF2.out,hw3];simp),HB5.out⟩
                | true =>
                 have HF3:Hid (bJ g.Gd s start=(!(s.kind == 2&&!(s.length % s.Ga.length == 0))&&!(s.kind == 4&&!(s.length % (s.Ga.length - 1) == 0)))):=aa (by rw [HF2.out,HLX.out,HPX.out,HMK.out,HPO.out,HW1.out,HW2'.out,hw3];simp);clear HMK HW1 HW2' hw3 HF2 HLX HPX
                 by_cases hk2:s.kind=2
                 ·have hk2b:(s.kind == 2)=true:=by simpa using hk2
                  have hk4b:(s.kind == 4)=false:=by rw [hk2];rfl
                  have hal:2≤s.Ga.length:=by
                   have:=HSO.out;rw [hk2] at this;have:=lu this;have:=HC4.out;omega
                  have e0:((s.Ga.length:Int) == 0)=false:=by rw [beq_eq_false_iff_ne];omega
                  have e1:s.length.tmod (s.Ga.length:Int)=s.length % (s.Ga.length:Int):=Int.tmod_eq_emod_of_nonneg HL0.out;cases hm:(s.length % (s.Ga.length:Int) == 0) with
                  | true =>
                   have hmn:(s.length % (s.Ga.length:Int) != 0)=false:=by simpa using hm
                   have HR:Hid (bJ g.Gd s start=true):=aa (by rw [HF3.out,hk4b,hm];simp);go_wp2;go_ret;exact ⟨ah HR.out.symm,HB5.out⟩
                  | false =>
                   have hmn:(s.length % (s.Ga.length:Int) != 0)=true:=by simpa using hm
                   have HR:Hid (bJ g.Gd s start=false):=aa (by rw [HF3.out,hk2b,hm];simp);go_wp2;go_ret;exact ⟨ah HR.out.symm,HB5.out⟩
                 ·have hk2b:(s.kind == 2)=false:=by simpa using hk2
                  by_cases hk4:s.kind=4
                  ·have hk4b:(s.kind == 4)=true:=by simpa using hk4
                   have hal:3≤s.Ga.length:=by
                    have:=HSO.out;rw [hk4] at this;have:=kC this;have:=HC4.out;omega
                   have e0:((s.Ga.length:Int) - 1 == 0)=false:=by simp;omega
                   have e1:s.length.tmod ((s.Ga.length:Int) - 1)=s.length % ((s.Ga.length:Int) - 1):=Int.tmod_eq_emod_of_nonneg HL0.out;cases hm:(s.length % ((s.Ga.length:Int) - 1) == 0) with
                   | true =>
                    have hmn:(s.length % ((s.Ga.length:Int) - 1) != 0)=false:=by simpa using hm
                    have HR:Hid (bJ g.Gd s start=true):=aa (by rw [HF3.out,hk2b,hm];simp);go_wp2;go_ret;exact ⟨ah HR.out.symm,HB5.out⟩
                   | false =>
                    have hmn:(s.length % ((s.Ga.length:Int) - 1) != 0)=true:=by simpa using hm
                    have HR:Hid (bJ g.Gd s start=false):=aa (by rw [HF3.out,hk4b,hm];simp);go_wp2;go_ret;exact ⟨ah HR.out.symm,HB5.out⟩
                  ·have hk4b:(s.kind == 4)=false:=by simpa using hk4
                   have HR:Hid (bJ g.Gd s start=true):=aa (by rw [HF3.out,hk2b,hk4b];rfl);go_wp2;go_ret;exact ⟨ah HR.out.symm,HB5.out⟩
            | false =>
             have HPO:=aa hpo;cases hpe:s.pool.toList.isEmpty with
             | true =>
              have HPX:Hid ((x.pool||s.pool.toList.isEmpty)=true):=aa (by rw [hpe];simp)
              go_wp2_with fail
              refine (jb s x _ _ _ (bC.moves.mv (Mv.of HB4.out) HV.out) ha hl (by simp [dm,HLG.out,HPO.out,HXV.out])).mono ?_;rintro e w5 ⟨rfl,hb5⟩;have HB5:=aa (HB4.out.trans (hb5.mono HB4.out.size));have HQ1:=aa ((hb5.block _ (by have:=HB4.out.size;have:=HZ4.out;omega)).trans HP1.out);have HQ2:=aa ((hb5.block _ HZ4.out).trans HP2.out);clear hb5;clear s0 s1 s2 s3 s4 s5 s6 s7 s8 s9 s10 x0 x1 x2 x3 x4 x5 x6 x7 x8 x9;have s1:=HS7.out 1 _ rfl w5 HQ1.out;have s2:=HS7.out 2 _ rfl w5 HQ1.out;have s3:=HS7.out 3 _ rfl w5 HQ1.out;have s8:=HS7.out 8 _ rfl w5 HQ1.out;have s9:=HS7.out 9 _ rfl w5 HQ1.out;have s10:=HS7.out 10 _ rfl w5 HQ1.out;have x6:=HX7.out 6 _ rfl w5 HQ2.out;have x8:=HX7.out 8 _ rfl w5 HQ2.out;have x9:=HX7.out 9 _ rfl w5 HQ2.out;cases hmk:dP s x with
              | false =>
               go_wp2;go_ret;exact ⟨ah (by rw [HF2.out,hmk];simp),HB5.out⟩
              | true =>
               have HMK:=aa hmk;clear hmk
               go_wp2_with fail
               refine (di _ _ _ _ _).mono ?_;rintro e w6 ⟨rfl,rfl⟩;cases hw1:bE s.device 1 65535 false with
               | false =>
                go_wp2;go_ret;exact ⟨ah (by rw [HF2.out,HPO.out,hw1];simp),HB5.out⟩
               | true =>
                have HW1:=aa hw1;clear hw1
                go_wp2_with fail
                refine (di _ _ _ _ _).mono ?_;rintro e w6 ⟨rfl,rfl⟩;cases hw2:bE s.mode 1 2 x.mode with
                | false =>
                 go_wp2;go_ret;exact ⟨ah (by rw [HF2.out,hw2];simp),HB5.out⟩
                | true =>
                 have HW2':=aa hw2;clear hw2
                 go_wp2_with fail
                 refine (di _ _ _ _ _).mono ?_;rintro e w6 ⟨rfl,rfl⟩;cases hw3:bE s.done 0 s.length x.done with
                 | false =>
                  go_wp2;go_ret;exact ⟨ah (by rw [HF2.out,hw3];simp),HB5.out⟩
                 | true =>
                  have HF3:Hid (bJ g.Gd s start=(!(s.kind == 2&&!(s.length % s.Ga.length == 0))&&!(s.kind == 4&&!(s.length % (s.Ga.length - 1) == 0)))):=aa (by rw [HF2.out,HLX.out,HPX.out,HMK.out,HPO.out,HW1.out,HW2'.out,hw3];simp);clear HMK HW1 HW2' hw3 HF2 HLX HPX
                  by_cases hk2:s.kind=2
                  ·have hk2b:(s.kind == 2)=true:=by simpa using hk2
                   have hk4b:(s.kind == 4)=false:=by rw [hk2];rfl
                   have hal:2≤s.Ga.length:=by
                    have:=HSO.out;rw [hk2] at this;have:=lu this;have:=HC4.out;omega
                   have e0:((s.Ga.length:Int) == 0)=false:=by rw [beq_eq_false_iff_ne];omega
                   have e1:s.length.tmod (s.Ga.length:Int)=s.length % (s.Ga.length:Int):=Int.tmod_eq_emod_of_nonneg HL0.out;cases hm:(s.length % (s.Ga.length:Int) == 0) with
                   | true =>
                    have hmn:(s.length % (s.Ga.length:Int) != 0)=false:=by simpa using hm
                    have HR:Hid (bJ g.Gd s start=true):=aa (by rw [HF3.out,hk4b,hm];simp);go_wp2;go_ret;exact ⟨ah HR.out.symm,HB5.out⟩
                   | false =>
                    have hmn:(s.length % (s.Ga.length:Int) != 0)=true:=by simpa using hm
                    have HR:Hid (bJ g.Gd s start=false):=aa (by rw [HF3.out,hk2b,hm];simp);go_wp2;go_ret;exact ⟨ah HR.out.symm,HB5.out⟩
                  ·have hk2b:(s.kind == 2)=false:=by simpa using hk2
                   by_cases hk4:s.kind=4
                   ·have hk4b:(s.kind == 4)=true:=by simpa using hk4
                    have hal:3≤s.Ga.length:=by
                     have:=HSO.out;rw [hk4] at this;have:=kC this;have:=HC4.out;omega
                    have e0:((s.Ga.length:Int) - 1 == 0)=false:=by simp;omega
                    have e1:s.length.tmod ((s.Ga.length:Int) - 1)=s.length % ((s.Ga.length:Int) - 1):=Int.tmod_eq_emod_of_nonneg HL0.out;cases hm:(s.length % ((s.Ga.length:Int) - 1) == 0) with
                    | true =>
                     have hmn:(s.length % ((s.Ga.length:Int) - 1) != 0)=false:=by simpa using hm
                     have HR:Hid (bJ g.Gd s start=true):=aa (by rw [HF3.out,hk2b,hm];simp);go_wp2;go_ret;exact ⟨ah HR.out.symm,HB5.out⟩
                    | false =>
                     have hmn:(s.length % ((s.Ga.length:Int) - 1) != 0)=true:=by simpa using hm
                     have HR:Hid (bJ g.Gd s start=false):=aa (by rw [HF3.out,hk4b,hm];simp);go_wp2;go_ret;exact ⟨ah HR.out.symm,HB5.out⟩
                   ·have hk4b:(s.kind == 4)=false:=by simpa using hk4
                    have HR:Hid (bJ g.Gd s start=true):=aa (by rw [HF3.out,hk2b,hk4b];rfl);go_wp2;go_ret;exact ⟨ah HR.out.symm,HB5.out⟩
             | false =>
              go_wp2;go_ret;exact ⟨ah (by rw [HF2.out,hpo,hpe];simp),HB4.out⟩
      ·go_wp2
       go_ret;exact ⟨ah (by rw [HF.out,decide_eq_false (show ¬ (s.Ga.length:Int)≤x.greatest by omega)];simp),HB3.out⟩
     ·go_wp2
      go_ret;exact ⟨ah (by rw [HF.out,decide_eq_false (show ¬ x.least≤(s.Ga.length:Int) by omega)];simp),HB3.out⟩
    ·go_wp2
     go_ret;exact ⟨ah (by rw [HF.out,decide_eq_false (show ¬ s.length≤32768 by omega)];simp),HB3.out⟩
   ·go_wp2
    go_ret;exact ⟨ah (by rw [HF.out,decide_eq_false (show ¬ 1≤s.length by omega)];simp),HB3.out⟩
  ·go_wp2
   go_ret;exact ⟨ah (by rw [HF.out,show (s.start == start)=false from by simpa using c1];simp),HB3.out⟩
end Go.Proofs.YtjdfihglehfelaaGreatDoor
