/- areas.All's closure: what it hands on. -/
import Derived.Test.YteengifhndmjeaaSpB
namespace Go.Proofs.Yteengifhndmjeaa
open Go.RowKit

structure PieceM where
  vol : ByteArray
  disk : ByteArray
  start : Int
  len : Int
def encP (x : PieceM) : Array Value := #[.agg #[.string x.vol, .string x.disk, .int .i64 x.start, .int .i64 x.len]]
def areaPiece (name : ByteArray) (s : SegM) (a : AreaM) : PieceM := ⟨name, a.on, a.start, extN s.kind s.length s.areas.length⟩
def onDisk (s : SegM) : Prop := s.kind = 1 ∨ s.kind = 2 ∨ s.kind = 8
instance (s : SegM) : Decidable (onDisk s) := inferInstanceAs (Decidable (_ ∨ _ ∨ _))
def segPieces (name : ByteArray) (s : SegM) : List PieceM := if onDisk s then s.areas.map (areaPiece name s) else []
def volPieces (v : VolM) : List PieceM := v.segs.flatMap (segPieces v.name)
def pieces (vs : List VolM) : List PieceM := vs.flatMap volPieces

/-- Volumes whose segments are small, and whose areas lie on disks where they should. -/
def TameV (vs : List VolM) : Prop := ∀ v ∈ vs, v.segs.length ≤ 1000 ∧ ∀ s ∈ v.segs, (0 ≤ s.length ∧ s.length ≤ 1000000) ∧ s.areas.length ≤ 1000 ∧ (onDisk s → ∀ a ∈ s.areas, a.vol = false)

/-- The blocks of the iterator's own. -/
def boxT (t : TypeId) : Bool := t == 56 || t == 101
/-- What a round keeps: what lay below, and volumes and segments wherever they lie. -/
def KpT (n₀ : Nat) (W W' : World) : Prop := Below n₀ W W' ∧ ∀ (k : Nat) (cs : Array Value) (t : TypeId) (z : Nat × Nat), W.heap[k]? = some (.cells cs t z) → boxT t = true → W'.heap[k]? = W.heap[k]?
theorem KpT.trans {n₀ : Nat} {A B C : World} (h : KpT n₀ A B) (k : KpT n₀ B C) : KpT n₀ A C := ⟨h.1.trans k.1, fun i cs t z e ht => by
  have h1 := h.2 i cs t z e ht
  exact (k.2 i cs t z (h1.trans e) ht).trans h1⟩
theorem KpT.of_below {n₀ : Nat} {A B : World} (h : Below A.heap.size A B) (hn : n₀ ≤ A.heap.size) : KpT n₀ A B := ⟨h.mono hn, fun i _cs _t _z e _ => h.block i (lt_of_block e)⟩
theorem grown_of_below {A B : World} (h : Below A.heap.size A B) : A.grownBy B none := ⟨h.os, h.tape, h.output, h.size, fun k hk _ => h.block k hk⟩

theorem yieldAt_mono {F : Fence} {m : Nat} {P : Program} {l : Nat} {args : Array Value} {W : World} {R R' : Ending → World → Prop} (h : YieldAt F m P l args W R) (hR : ∀ e w, R e w → R' e w) : YieldAt F m P l args W R' := by
  obtain ⟨fn, tmps, assign, body, hy, h⟩ := h
  exact ⟨fn, tmps, assign, body, hy, h.mono hR⟩

theorem flatMap_at {α β : Type} {l : List α} {k : Nat} {x : α} (h : l[k]? = some x) (f : α → List β) : l.flatMap f = (l.take k).flatMap f ++ (f x ++ (l.drop (k + 1)).flatMap f) := by
  have hk := (List.getElem?_eq_some_iff.1 h).1
  have hx := (List.getElem?_eq_some_iff.1 h).2
  conv => lhs; rw [← List.take_append_drop k l, List.flatMap_append, List.drop_eq_getElem_cons hk, List.flatMap_cons, hx]
theorem take_flatMap {α β : Type} {l : List α} {k : Nat} {x : α} (h : l[k]? = some x) (f : α → List β) : (l.take (k + 1)).flatMap f = (l.take k).flatMap f ++ f x := by
  rw [take_snoc' l k x h]
  simp
theorem map_at {α β : Type} {l : List α} {k : Nat} {x : α} (h : l[k]? = some x) (f : α → β) : l.map f = (l.take k).map f ++ (f x :: (l.drop (k + 1)).map f) := by
  have hk := (List.getElem?_eq_some_iff.1 h).1
  have hx := (List.getElem?_eq_some_iff.1 h).2
  conv => lhs; rw [← List.take_append_drop k l, List.map_append, List.drop_eq_getElem_cons hk, List.map_cons, hx]
theorem pieces_at {vs : List VolM} {v : VolM} {s : SegM} {a : AreaM} {k q p : Nat} (hv : vs[k]? = some v) (hs : v.segs[q]? = some s) (ha : s.areas[p]? = some a) (ho : onDisk s) :
    ∃ rest, pieces vs = (((vs.take k).flatMap volPieces ++ (v.segs.take q).flatMap (segPieces v.name)) ++ (s.areas.take p).map (areaPiece v.name s)) ++ (areaPiece v.name s a :: rest) := by
  refine ⟨(s.areas.drop (p + 1)).map (areaPiece v.name s) ++ ((v.segs.drop (q + 1)).flatMap (segPieces v.name) ++ (vs.drop (k + 1)).flatMap volPieces), ?_⟩
  unfold pieces
  rw [flatMap_at hv, show volPieces v = v.segs.flatMap (segPieces v.name) from rfl, flatMap_at hs, show segPieces v.name s = s.areas.map (areaPiece v.name s) from if_pos ho, map_at ha]
  simp [List.append_assoc]

theorem RdS.elem {α : Type} {V : Rdr α} {sz : Nat} {ok : Nat → Prop} {w : World} {p : Option Addr} {cap : Nat} {l : List α} (h : RdS V sz ok w [.slice p l.length cap] l) {k : Nat} {x : α} (hk : l[k]? = some x) :
    ∃ b off u, p = some ⟨b, off, none⟩ ∧ ok b ∧ b < w.heap.size ∧ u.length = sz ∧ V ok w u x ∧ ∀ (j : Nat) (z : Value), u[j]? = some z → w.cell? ⟨b, off + k * sz + j, none⟩ = some z := by
  obtain ⟨p', cap', e, _, _, h3⟩ := h
  obtain ⟨b, off, rfl, hb, ho, hc⟩ := h3 (by have := (List.getElem?_eq_some_iff.1 hk).1; omega)
  obtain ⟨u, h1, h2, h3⟩ := hc k x hk
  refine ⟨b, off, u, ?_, ho, hb, h1, h2, h3⟩
  injection e with e
  injection e with e
theorem RdS.cap {α : Type} {V : Rdr α} {sz : Nat} {ok : Nat → Prop} {w : World} {v : Value} {l : List α} (h : RdS V sz ok w [v] l) : ∃ p cap, v = .slice p l.length cap ∧ l.length ≤ cap ∧ cap ≤ 9223372036854775807 := by
  obtain ⟨p, cap, e, h1, h2, _⟩ := h
  exact ⟨p, cap, List.singleton_inj.1 e, h1, h2⟩

set_option maxRecDepth 100000 in
set_option maxHeartbeats 40000000 in
theorem all1_stops (n n₀ Bg : Nat) (w : World) (vp : Option Addr) (vcap : Nat) (vs : List VolM) (hc : w.cell? ⟨Bg, 7, none⟩ = some (.slice vp vs.length vcap)) (hBg : Bg < w.heap.size) (hn : n₀ ≤ w.heap.size)
    (hr : RdS vVol 6 (fun b => b < n₀) w [.slice vp vs.length vcap] vs) (ht : TameV vs) (hvl : vs.length ≤ 1000) :
    SeqStopsK Fence.wide n Try.prog 77 #[.pointer (some ⟨Bg, 0, none⟩)] encP (KpT n₀) (fun xs => xs = pieces vs) (fun pre => pre <+: pieces vs) (pieces vs).length w := by
  intro l J Jx W hW hJ hJx hY h0
  refine callsIn_wide.2 ?_
  show Calls Try.prog 77 #[.func (.yield l) #[] #[], .pointer (some ⟨Bg, 0, none⟩)] W _
  have hcW : W.cell? ⟨Bg, 7, none⟩ = some (.slice vp vs.length vcap) := (World.cell?_of_block (w := w) (hW.block Bg hBg)).trans hc
  have HR := Lib.hid ((RdS.moves vVol.moves).mv (ok' := fun b => b < n₀) ⟨hW.size, fun b hb ho => ⟨ho, hW.block b hb⟩⟩ hr)
  have hnW := Nat.le_trans hn hW.size
  have HT := Lib.hid ht
  have HY := Lib.hid hY
  have HJ := Lib.hid hJ
  clear hc hr ht hY hJ hJx
  go_enter Try.func77, Try.ntmps77
  go_wp2
  go_loopw [12] (fun i wr => ∃ k : Nat, k ≤ vs.length ∧ i = .int .i64 k ∧ J ((vs.take k).flatMap volPieces) wr ∧ Below n₀ W wr ∧ W.heap.size ≤ wr.heap.size) (fun i _ => vs.length - (intOf i).toNat)
  case atStart => exact ⟨0, Nat.zero_le _, rfl, by simpa using h0, Below.refl _ _, Nat.le_refl _⟩
  case round =>
    obtain ⟨k, hk, rfl, hJs, hB, hz⟩ := hrel
    by_cases hlt : k < vs.length
    · obtain ⟨v, hv⟩ := getSome vs k hlt
      have htv := HT.out v (List.mem_of_getElem? hv)
      have hsl := htv.1
      have HTV := Lib.hid htv.2
      clear htv
      obtain ⟨b, off, u, rfl, hob, hbw, hul, hvv, hcv⟩ := HR.out.elem hv
      obtain ⟨tv, gv, rfl, htr, hgr⟩ := hvv
      obtain ⟨tp, tc, rfl, _, _⟩ := htr.cap
      obtain ⟨gp, gc, rfl, hg1, hg2⟩ := hgr.cap
      have hbk : wr.heap[b]? = W.heap[b]? := hB.block b hob
      have q0 := (World.cell?_of_block (w := W) (a := ⟨b, off + k * 6, none⟩) hbk).trans (hcv 0 _ rfl)
      have q1 := (World.cell?_of_block (w := W) (a := ⟨b, off + k * 6 + 1, none⟩) hbk).trans (hcv 1 _ rfl)
      have q2 := (World.cell?_of_block (w := W) (a := ⟨b, off + k * 6 + 2, none⟩) hbk).trans (hcv 2 _ rfl)
      have q3 := (World.cell?_of_block (w := W) (a := ⟨b, off + k * 6 + 3, none⟩) hbk).trans (hcv 3 _ rfl)
      have q4 := (World.cell?_of_block (w := W) (a := ⟨b, off + k * 6 + 4, none⟩) hbk).trans (hcv 4 _ rfl)
      have q5 := (World.cell?_of_block (w := W) (a := ⟨b, off + k * 6 + 5, none⟩) hbk).trans (hcv 5 _ rfl)
      have HV := Lib.hid hv; clear hv
      have HGR := Lib.hid hgr; clear hgr
      clear htr hcv hul hbk
      have hb1 := below_alloc wr (.cells #[.string v.name, .int .u64 v.id, .bool v.hidden, .bool v.ro, .slice tp v.tags.length tc, .slice gp v.segs.length gc] 56)
      have HBv := Lib.hid (heap_alloc_new wr (.cells #[.string v.name, .int .u64 v.id, .bool v.hidden, .bool v.ro, .slice tp v.tags.length tc, .slice gp v.segs.length gc] 56))
      have HJ1 := Lib.hid (HJ.out _ _ _ none hJs (grown_of_below hb1) (fun r e => by cases e))
      have HB1 := Lib.hid (hB.trans (hb1.mono (by omega)))
      have HZ1 := Lib.hid (Nat.le_trans hz hb1.size)
      clear hb1
      clear hJs
      go_upto_block 2 with (fail)
      clear q0 q1 q2 q3 q4 q5
      generalize hW1 : wr.alloc _ = W1 at *
      generalize hBve : wr.heap.size = Bv at *
      clear hW1 hB hz hBve
      go_wp2
      go_loopw [19] (fun j wr2 => ∃ q : Nat, q ≤ v.segs.length ∧ j = .int .i64 q ∧ J ((vs.take k).flatMap volPieces ++ (v.segs.take q).flatMap (segPieces v.name)) wr2 ∧ Below n₀ W wr2 ∧ W.heap.size ≤ wr2.heap.size ∧ wr2.heap[Bv]? = some (.cells #[.string v.name, .int .u64 v.id, .bool v.hidden, .bool v.ro, .slice tp v.tags.length tc, .slice gp v.segs.length gc] 56 (0, 0))) (fun j _ => v.segs.length - (intOf j).toNat)
      case atStart => exact ⟨0, Nat.zero_le _, rfl, by simpa using HJ1.out, HB1.out, HZ1.out, HBv.out⟩
      case round =>
        obtain ⟨q, hq, rfl, hJs, hB, hz, hbv⟩ := hrel
        by_cases hlt2 : q < v.segs.length
        · obtain ⟨s, hs⟩ := getSome v.segs q hlt2
          have hts := HTV.out s (List.mem_of_getElem? hs)
          have hl0 := hts.1.1
          have hl1 := hts.1.2
          have hal := hts.2.1
          have HTS := Lib.hid hts.2.2
          clear hts
          obtain ⟨b2, off2, u2, rfl, hob2, hbw2, hul2, hvs, hcs⟩ := HGR.out.elem hs
          obtain ⟨av, stv, rfl, har, hstr⟩ := hvs
          obtain ⟨ap, ac, rfl, ha1, ha2⟩ := har.cap
          obtain ⟨sp, sc, rfl, _, _⟩ := hstr.cap
          have hbk : wr.heap[b2]? = W.heap[b2]? := hB.block b2 hob2
          have q0 := (World.cell?_of_block (w := W) (a := ⟨b2, off2 + q * 11, none⟩) hbk).trans (hcs 0 _ rfl)
          have q1 := (World.cell?_of_block (w := W) (a := ⟨b2, off2 + q * 11 + 1, none⟩) hbk).trans (hcs 1 _ rfl)
          have q2 := (World.cell?_of_block (w := W) (a := ⟨b2, off2 + q * 11 + 2, none⟩) hbk).trans (hcs 2 _ rfl)
          have q3 := (World.cell?_of_block (w := W) (a := ⟨b2, off2 + q * 11 + 3, none⟩) hbk).trans (hcs 3 _ rfl)
          have q4 := (World.cell?_of_block (w := W) (a := ⟨b2, off2 + q * 11 + 4, none⟩) hbk).trans (hcs 4 _ rfl)
          have q5 := (World.cell?_of_block (w := W) (a := ⟨b2, off2 + q * 11 + 5, none⟩) hbk).trans (hcs 5 _ rfl)
          have q6 := (World.cell?_of_block (w := W) (a := ⟨b2, off2 + q * 11 + 6, none⟩) hbk).trans (hcs 6 _ rfl)
          have q7 := (World.cell?_of_block (w := W) (a := ⟨b2, off2 + q * 11 + 7, none⟩) hbk).trans (hcs 7 _ rfl)
          have q8 := (World.cell?_of_block (w := W) (a := ⟨b2, off2 + q * 11 + 8, none⟩) hbk).trans (hcs 8 _ rfl)
          have q9 := (World.cell?_of_block (w := W) (a := ⟨b2, off2 + q * 11 + 9, none⟩) hbk).trans (hcs 9 _ rfl)
          have q10 := (World.cell?_of_block (w := W) (a := ⟨b2, off2 + q * 11 + 10, none⟩) hbk).trans (hcs 10 _ rfl)
          have HSG := Lib.hid hs; clear hs
          have HAR := Lib.hid har; clear har
          clear hstr hcs hul2 hbk
          have hb2 := below_alloc wr (.cells #[.int .i64 s.start, .int .i64 s.length, .int .i64 s.kind, .slice ap s.areas.length ac, .int .i64 s.chunk, .slice sp s.stale.length sc, .string s.log, .string s.pool, .int .i64 s.device, .int .i64 s.mode, .int .i64 s.done] 101)
          have HBs := Lib.hid (heap_alloc_new wr (.cells #[.int .i64 s.start, .int .i64 s.length, .int .i64 s.kind, .slice ap s.areas.length ac, .int .i64 s.chunk, .slice sp s.stale.length sc, .string s.log, .string s.pool, .int .i64 s.device, .int .i64 s.mode, .int .i64 s.done] 101))
          have HBv2 := Lib.hid ((hb2.block Bv (lt_of_block hbv)).trans hbv)
          have HJ2 := Lib.hid (HJ.out _ _ _ none hJs (grown_of_below hb2) (fun r e => by cases e))
          have HB2 := Lib.hid (hB.trans (hb2.mono (by omega)))
          have HZ2 := Lib.hid (Nat.le_trans hz hb2.size)
          have k2 : (wr.alloc (.cells #[.int .i64 s.start, .int .i64 s.length, .int .i64 s.kind, .slice ap s.areas.length ac, .int .i64 s.chunk, .slice sp s.stale.length sc, .string s.log, .string s.pool, .int .i64 s.device, .int .i64 s.mode, .int .i64 s.done] 101)).cell? ⟨wr.heap.size, 2, none⟩ = some (.int .i64 s.kind) := cell_new rfl rfl
          have k3 : (wr.alloc (.cells #[.int .i64 s.start, .int .i64 s.length, .int .i64 s.kind, .slice ap s.areas.length ac, .int .i64 s.chunk, .slice sp s.stale.length sc, .string s.log, .string s.pool, .int .i64 s.device, .int .i64 s.mode, .int .i64 s.done] 101)).cell? ⟨wr.heap.size, 3, none⟩ = some (.slice ap s.areas.length ac) := cell_new rfl rfl
          clear hJs hb2 hbv
          by_cases hod : onDisk s
          · have hkk : s.kind = 1 ∨ s.kind = 2 ∨ s.kind = 8 := hod
            have HOD := Lib.hid hod; clear hod
            go_upto_region 6 with (fail)
            clear q0 q1 q2 q3 q4 q5 q6 q7 q8 q9 q10
            generalize hW2 : wr.alloc _ = W2 at *
            generalize hBse : wr.heap.size = Bs at *
            clear hW2 hB hz hBse
            rcases hkk with hkd | hkd | hkd
            · have nb1 : (s.kind != 1) = false := by simp [hkd]
              clear hkd
              go_wp2
              clear k2 k3
              go_loopw [39] (fun m wr3 => ∃ p : Nat, p ≤ s.areas.length ∧ m = .int .i64 p ∧ J (((vs.take k).flatMap volPieces ++ (v.segs.take q).flatMap (segPieces v.name)) ++ (s.areas.take p).map (areaPiece v.name s)) wr3 ∧ Below n₀ W wr3 ∧ W.heap.size ≤ wr3.heap.size ∧ wr3.heap[Bv]? = some (.cells #[.string v.name, .int .u64 v.id, .bool v.hidden, .bool v.ro, .slice tp v.tags.length tc, .slice (some ⟨b2, off2, none⟩) v.segs.length gc] 56 (0, 0)) ∧ wr3.heap[Bs]? = some (.cells #[.int .i64 s.start, .int .i64 s.length, .int .i64 s.kind, .slice ap s.areas.length ac, .int .i64 s.chunk, .slice sp s.stale.length sc, .string s.log, .string s.pool, .int .i64 s.device, .int .i64 s.mode, .int .i64 s.done] 101 (0, 0))) (fun m _ => s.areas.length - (intOf m).toNat)
              case atStart => exact ⟨0, Nat.zero_le _, rfl, by simpa using HJ2.out, HB2.out, HZ2.out, HBv2.out, HBs.out⟩
              case round =>
                obtain ⟨p, hp, rfl, hJs, hB, hz, hbv, hbs⟩ := hrel
                by_cases hlt3 : p < s.areas.length
                · obtain ⟨a, ha⟩ := getSome s.areas p hlt3
                  have hav := HTS.out HOD.out a (List.mem_of_getElem? ha)
                  obtain ⟨b3, off3, u3, rfl, hob3, hbw3, hul3, hva, hca⟩ := HAR.out.elem ha
                  obtain rfl : u3 = [.bool a.vol, .string a.on, .int .i64 a.start] := hva
                  rw [hav] at hca
                  have hbk : wr.heap[b3]? = W.heap[b3]? := hB.block b3 hob3
                  have q0 := (World.cell?_of_block (w := W) (a := ⟨b3, off3 + p * 3, none⟩) hbk).trans (hca 0 _ rfl)
                  have q1 := (World.cell?_of_block (w := W) (a := ⟨b3, off3 + p * 3 + 1, none⟩) hbk).trans (hca 1 _ rfl)
                  have q2 := (World.cell?_of_block (w := W) (a := ⟨b3, off3 + p * 3 + 2, none⟩) hbk).trans (hca 2 _ rfl)
                  have hb3 := below_alloc wr (.cells #[.bool false, .string a.on, .int .i64 a.start] 98)
                  have HBa := Lib.hid (heap_alloc_new wr (.cells #[.bool false, .string a.on, .int .i64 a.start] 98))
                  have HBv3 := Lib.hid ((hb3.block Bv (lt_of_block hbv)).trans hbv)
                  have HBs3 := Lib.hid ((hb3.block Bs (lt_of_block hbs)).trans hbs)
                  have HJ3 := Lib.hid (HJ.out _ _ _ none hJs (grown_of_below hb3) (fun r e => by cases e))
                  have HB3 := Lib.hid (hB.trans (hb3.mono (by omega)))
                  have HZ3 := Lib.hid (Nat.le_trans hz hb3.size)
                  obtain ⟨rest, hrest⟩ := pieces_at HV.out HSG.out ha HOD.out
                  have HREST := Lib.hid hrest; clear hrest
                  have HA := Lib.hid ha; clear ha
                  clear hJs hb3 hbv hbs hca hbk hul3 hav
                  go_upto_region 10 with (fail)
                  clear q0 q1 q2
                  generalize hW3 : wr.alloc _ = W3 at *
                  generalize hBae : wr.heap.size = Ba at *
                  clear hW3 hB hz hBae
                  refine all1_reg10 (n' := n - 1) (name := v.name) (on := a.on) (s := a.start) (R := fun go w2 => (go = true ∧ J ((((vs.take k).flatMap volPieces ++ (v.segs.take q).flatMap (segPieces v.name)) ++ (s.areas.take p).map (areaPiece v.name s)) ++ [areaPiece v.name s a]) w2 ∧ KpT n₀ W3 w2) ∨ (go = false ∧ Jx ((((vs.take k).flatMap volPieces ++ (v.segs.take q).flatMap (segPieces v.name)) ++ (s.areas.take p).map (areaPiece v.name s)) ++ [areaPiece v.name s a]) w2)) (by simp [World.cell?, HBv3.out]) HBa.out HBs3.out hl0 hl1 hal (lt_of_block HBv3.out) ?_ _ _ _ _ _ _ _ _ _ _ _ _ _ _ _ _ _ _ _ _ _ _ _ _ _ _ _ _ _ _ _ _ _ _ _ _ _ _ _ _ _ _ _ _ _ _ _ _ _ _ _ _ _ _ _ _ _ _ _ _ _ (fun _ _ _ _ _ h => h) (Lib.hid ?_)
                  · intro w' hb
                    refine yieldAt_mono (HY.out (((vs.take k).flatMap volPieces ++ (v.segs.take q).flatMap (segPieces v.name)) ++ (s.areas.take p).map (areaPiece v.name s)) (areaPiece v.name s a) w' (HJ.out _ _ _ none HJ3.out (grown_of_below hb) (fun r e => by cases e)) (by have e := congrArg List.length HREST.out; rw [List.length_append, List.length_cons] at e; omega)) (fun e w2 q => ?_)
                    rcases q with ⟨rfl, h1, h2⟩ | ⟨rfl, h1⟩
                    · exact ⟨true, rfl, .inl ⟨rfl, h1, (KpT.of_below hb (by have := HZ3.out; omega)).trans h2⟩⟩
                    · exact ⟨false, rfl, .inr ⟨rfl, h1⟩⟩
                  · intro go w5 u43 u44 u45 u46 u47 u48 u49 u50 u51 u52 u53 u54 u55 u56 u57 u58 hR
                    rcases hR with ⟨rfl, hJ5, hk5⟩ | ⟨rfl, hJx5⟩
                    · have HJ5 := Lib.hid hJ5; clear hJ5
                      have HK5 := Lib.hid hk5; clear hk5
                      go_wp2
                      go_roundw
                      case rel => exact ⟨p + 1, by omega, by go_num, by rw [take_snoc' _ _ _ HA.out, List.map_append, ← List.append_assoc]; exact HJ5.out, HB3.out.trans HK5.out.1, Nat.le_trans HZ3.out HK5.out.1.size, (HK5.out.2 Bv _ _ _ HBv3.out rfl).trans HBv3.out, (HK5.out.2 Bs _ _ _ HBs3.out rfl).trans HBs3.out⟩
                      case measure => simp [intOf]; omega
                    · have HJ5 := Lib.hid hJx5; clear hJx5
                      go_wp2
                      refine bodyPost_ret (results_none rfl _ _ _) rfl ⟨⟨_, rfl⟩, .inr ⟨_, ⟨rest, ?_⟩, HJ5.out⟩⟩
                      rw [HREST.out, List.append_assoc]
                      rfl
                · obtain rfl : p = s.areas.length := by omega
                  rw [List.take_length] at hJs
                  have HJs := Lib.hid hJs; clear hJs
                  have HBV := Lib.hid hbv; clear hbv
                  have HBS := Lib.hid hbs; clear hbs
                  go_wp2
                  go_roundw
                  case rel => exact ⟨q + 1, by omega, by go_num, by rw [take_flatMap HSG.out, show segPieces v.name s = s.areas.map (areaPiece v.name s) from if_pos HOD.out, ← List.append_assoc]; exact HJs.out, hB, hz, HBV.out⟩
                  case measure => simp [intOf]; omega
            · have nb1 : (s.kind != 1) = true := by simp [hkd]
              have nb2 : (s.kind != 2) = false := by simp [hkd]
              clear hkd
              go_wp2
              clear k2 k3
              go_loopw [39] (fun m wr3 => ∃ p : Nat, p ≤ s.areas.length ∧ m = .int .i64 p ∧ J (((vs.take k).flatMap volPieces ++ (v.segs.take q).flatMap (segPieces v.name)) ++ (s.areas.take p).map (areaPiece v.name s)) wr3 ∧ Below n₀ W wr3 ∧ W.heap.size ≤ wr3.heap.size ∧ wr3.heap[Bv]? = some (.cells #[.string v.name, .int .u64 v.id, .bool v.hidden, .bool v.ro, .slice tp v.tags.length tc, .slice (some ⟨b2, off2, none⟩) v.segs.length gc] 56 (0, 0)) ∧ wr3.heap[Bs]? = some (.cells #[.int .i64 s.start, .int .i64 s.length, .int .i64 s.kind, .slice ap s.areas.length ac, .int .i64 s.chunk, .slice sp s.stale.length sc, .string s.log, .string s.pool, .int .i64 s.device, .int .i64 s.mode, .int .i64 s.done] 101 (0, 0))) (fun m _ => s.areas.length - (intOf m).toNat)
              case atStart => exact ⟨0, Nat.zero_le _, rfl, by simpa using HJ2.out, HB2.out, HZ2.out, HBv2.out, HBs.out⟩
              case round =>
                obtain ⟨p, hp, rfl, hJs, hB, hz, hbv, hbs⟩ := hrel
                by_cases hlt3 : p < s.areas.length
                · obtain ⟨a, ha⟩ := getSome s.areas p hlt3
                  have hav := HTS.out HOD.out a (List.mem_of_getElem? ha)
                  obtain ⟨b3, off3, u3, rfl, hob3, hbw3, hul3, hva, hca⟩ := HAR.out.elem ha
                  obtain rfl : u3 = [.bool a.vol, .string a.on, .int .i64 a.start] := hva
                  rw [hav] at hca
                  have hbk : wr.heap[b3]? = W.heap[b3]? := hB.block b3 hob3
                  have q0 := (World.cell?_of_block (w := W) (a := ⟨b3, off3 + p * 3, none⟩) hbk).trans (hca 0 _ rfl)
                  have q1 := (World.cell?_of_block (w := W) (a := ⟨b3, off3 + p * 3 + 1, none⟩) hbk).trans (hca 1 _ rfl)
                  have q2 := (World.cell?_of_block (w := W) (a := ⟨b3, off3 + p * 3 + 2, none⟩) hbk).trans (hca 2 _ rfl)
                  have hb3 := below_alloc wr (.cells #[.bool false, .string a.on, .int .i64 a.start] 98)
                  have HBa := Lib.hid (heap_alloc_new wr (.cells #[.bool false, .string a.on, .int .i64 a.start] 98))
                  have HBv3 := Lib.hid ((hb3.block Bv (lt_of_block hbv)).trans hbv)
                  have HBs3 := Lib.hid ((hb3.block Bs (lt_of_block hbs)).trans hbs)
                  have HJ3 := Lib.hid (HJ.out _ _ _ none hJs (grown_of_below hb3) (fun r e => by cases e))
                  have HB3 := Lib.hid (hB.trans (hb3.mono (by omega)))
                  have HZ3 := Lib.hid (Nat.le_trans hz hb3.size)
                  obtain ⟨rest, hrest⟩ := pieces_at HV.out HSG.out ha HOD.out
                  have HREST := Lib.hid hrest; clear hrest
                  have HA := Lib.hid ha; clear ha
                  clear hJs hb3 hbv hbs hca hbk hul3 hav
                  go_upto_region 10 with (fail)
                  clear q0 q1 q2
                  generalize hW3 : wr.alloc _ = W3 at *
                  generalize hBae : wr.heap.size = Ba at *
                  clear hW3 hB hz hBae
                  refine all1_reg10 (n' := n - 1) (name := v.name) (on := a.on) (s := a.start) (R := fun go w2 => (go = true ∧ J ((((vs.take k).flatMap volPieces ++ (v.segs.take q).flatMap (segPieces v.name)) ++ (s.areas.take p).map (areaPiece v.name s)) ++ [areaPiece v.name s a]) w2 ∧ KpT n₀ W3 w2) ∨ (go = false ∧ Jx ((((vs.take k).flatMap volPieces ++ (v.segs.take q).flatMap (segPieces v.name)) ++ (s.areas.take p).map (areaPiece v.name s)) ++ [areaPiece v.name s a]) w2)) (by simp [World.cell?, HBv3.out]) HBa.out HBs3.out hl0 hl1 hal (lt_of_block HBv3.out) ?_ _ _ _ _ _ _ _ _ _ _ _ _ _ _ _ _ _ _ _ _ _ _ _ _ _ _ _ _ _ _ _ _ _ _ _ _ _ _ _ _ _ _ _ _ _ _ _ _ _ _ _ _ _ _ _ _ _ _ _ _ _ (fun _ _ _ _ _ h => h) (Lib.hid ?_)
                  · intro w' hb
                    refine yieldAt_mono (HY.out (((vs.take k).flatMap volPieces ++ (v.segs.take q).flatMap (segPieces v.name)) ++ (s.areas.take p).map (areaPiece v.name s)) (areaPiece v.name s a) w' (HJ.out _ _ _ none HJ3.out (grown_of_below hb) (fun r e => by cases e)) (by have e := congrArg List.length HREST.out; rw [List.length_append, List.length_cons] at e; omega)) (fun e w2 q => ?_)
                    rcases q with ⟨rfl, h1, h2⟩ | ⟨rfl, h1⟩
                    · exact ⟨true, rfl, .inl ⟨rfl, h1, (KpT.of_below hb (by have := HZ3.out; omega)).trans h2⟩⟩
                    · exact ⟨false, rfl, .inr ⟨rfl, h1⟩⟩
                  · intro go w5 u43 u44 u45 u46 u47 u48 u49 u50 u51 u52 u53 u54 u55 u56 u57 u58 hR
                    rcases hR with ⟨rfl, hJ5, hk5⟩ | ⟨rfl, hJx5⟩
                    · have HJ5 := Lib.hid hJ5; clear hJ5
                      have HK5 := Lib.hid hk5; clear hk5
                      go_wp2
                      go_roundw
                      case rel => exact ⟨p + 1, by omega, by go_num, by rw [take_snoc' _ _ _ HA.out, List.map_append, ← List.append_assoc]; exact HJ5.out, HB3.out.trans HK5.out.1, Nat.le_trans HZ3.out HK5.out.1.size, (HK5.out.2 Bv _ _ _ HBv3.out rfl).trans HBv3.out, (HK5.out.2 Bs _ _ _ HBs3.out rfl).trans HBs3.out⟩
                      case measure => simp [intOf]; omega
                    · have HJ5 := Lib.hid hJx5; clear hJx5
                      go_wp2
                      refine bodyPost_ret (results_none rfl _ _ _) rfl ⟨⟨_, rfl⟩, .inr ⟨_, ⟨rest, ?_⟩, HJ5.out⟩⟩
                      rw [HREST.out, List.append_assoc]
                      rfl
                · obtain rfl : p = s.areas.length := by omega
                  rw [List.take_length] at hJs
                  have HJs := Lib.hid hJs; clear hJs
                  have HBV := Lib.hid hbv; clear hbv
                  have HBS := Lib.hid hbs; clear hbs
                  go_wp2
                  go_roundw
                  case rel => exact ⟨q + 1, by omega, by go_num, by rw [take_flatMap HSG.out, show segPieces v.name s = s.areas.map (areaPiece v.name s) from if_pos HOD.out, ← List.append_assoc]; exact HJs.out, hB, hz, HBV.out⟩
                  case measure => simp [intOf]; omega
            · have nb1 : (s.kind != 1) = true := by simp [hkd]
              have nb2 : (s.kind != 2) = true := by simp [hkd]
              have nb8 : (s.kind != 8) = false := by simp [hkd]
              clear hkd
              go_wp2
              clear k2 k3
              go_loopw [39] (fun m wr3 => ∃ p : Nat, p ≤ s.areas.length ∧ m = .int .i64 p ∧ J (((vs.take k).flatMap volPieces ++ (v.segs.take q).flatMap (segPieces v.name)) ++ (s.areas.take p).map (areaPiece v.name s)) wr3 ∧ Below n₀ W wr3 ∧ W.heap.size ≤ wr3.heap.size ∧ wr3.heap[Bv]? = some (.cells #[.string v.name, .int .u64 v.id, .bool v.hidden, .bool v.ro, .slice tp v.tags.length tc, .slice (some ⟨b2, off2, none⟩) v.segs.length gc] 56 (0, 0)) ∧ wr3.heap[Bs]? = some (.cells #[.int .i64 s.start, .int .i64 s.length, .int .i64 s.kind, .slice ap s.areas.length ac, .int .i64 s.chunk, .slice sp s.stale.length sc, .string s.log, .string s.pool, .int .i64 s.device, .int .i64 s.mode, .int .i64 s.done] 101 (0, 0))) (fun m _ => s.areas.length - (intOf m).toNat)
              case atStart => exact ⟨0, Nat.zero_le _, rfl, by simpa using HJ2.out, HB2.out, HZ2.out, HBv2.out, HBs.out⟩
              case round =>
                obtain ⟨p, hp, rfl, hJs, hB, hz, hbv, hbs⟩ := hrel
                by_cases hlt3 : p < s.areas.length
                · obtain ⟨a, ha⟩ := getSome s.areas p hlt3
                  have hav := HTS.out HOD.out a (List.mem_of_getElem? ha)
                  obtain ⟨b3, off3, u3, rfl, hob3, hbw3, hul3, hva, hca⟩ := HAR.out.elem ha
                  obtain rfl : u3 = [.bool a.vol, .string a.on, .int .i64 a.start] := hva
                  rw [hav] at hca
                  have hbk : wr.heap[b3]? = W.heap[b3]? := hB.block b3 hob3
                  have q0 := (World.cell?_of_block (w := W) (a := ⟨b3, off3 + p * 3, none⟩) hbk).trans (hca 0 _ rfl)
                  have q1 := (World.cell?_of_block (w := W) (a := ⟨b3, off3 + p * 3 + 1, none⟩) hbk).trans (hca 1 _ rfl)
                  have q2 := (World.cell?_of_block (w := W) (a := ⟨b3, off3 + p * 3 + 2, none⟩) hbk).trans (hca 2 _ rfl)
                  have hb3 := below_alloc wr (.cells #[.bool false, .string a.on, .int .i64 a.start] 98)
                  have HBa := Lib.hid (heap_alloc_new wr (.cells #[.bool false, .string a.on, .int .i64 a.start] 98))
                  have HBv3 := Lib.hid ((hb3.block Bv (lt_of_block hbv)).trans hbv)
                  have HBs3 := Lib.hid ((hb3.block Bs (lt_of_block hbs)).trans hbs)
                  have HJ3 := Lib.hid (HJ.out _ _ _ none hJs (grown_of_below hb3) (fun r e => by cases e))
                  have HB3 := Lib.hid (hB.trans (hb3.mono (by omega)))
                  have HZ3 := Lib.hid (Nat.le_trans hz hb3.size)
                  obtain ⟨rest, hrest⟩ := pieces_at HV.out HSG.out ha HOD.out
                  have HREST := Lib.hid hrest; clear hrest
                  have HA := Lib.hid ha; clear ha
                  clear hJs hb3 hbv hbs hca hbk hul3 hav
                  go_upto_region 10 with (fail)
                  clear q0 q1 q2
                  generalize hW3 : wr.alloc _ = W3 at *
                  generalize hBae : wr.heap.size = Ba at *
                  clear hW3 hB hz hBae
                  refine all1_reg10 (n' := n - 1) (name := v.name) (on := a.on) (s := a.start) (R := fun go w2 => (go = true ∧ J ((((vs.take k).flatMap volPieces ++ (v.segs.take q).flatMap (segPieces v.name)) ++ (s.areas.take p).map (areaPiece v.name s)) ++ [areaPiece v.name s a]) w2 ∧ KpT n₀ W3 w2) ∨ (go = false ∧ Jx ((((vs.take k).flatMap volPieces ++ (v.segs.take q).flatMap (segPieces v.name)) ++ (s.areas.take p).map (areaPiece v.name s)) ++ [areaPiece v.name s a]) w2)) (by simp [World.cell?, HBv3.out]) HBa.out HBs3.out hl0 hl1 hal (lt_of_block HBv3.out) ?_ _ _ _ _ _ _ _ _ _ _ _ _ _ _ _ _ _ _ _ _ _ _ _ _ _ _ _ _ _ _ _ _ _ _ _ _ _ _ _ _ _ _ _ _ _ _ _ _ _ _ _ _ _ _ _ _ _ _ _ _ _ (fun _ _ _ _ _ h => h) (Lib.hid ?_)
                  · intro w' hb
                    refine yieldAt_mono (HY.out (((vs.take k).flatMap volPieces ++ (v.segs.take q).flatMap (segPieces v.name)) ++ (s.areas.take p).map (areaPiece v.name s)) (areaPiece v.name s a) w' (HJ.out _ _ _ none HJ3.out (grown_of_below hb) (fun r e => by cases e)) (by have e := congrArg List.length HREST.out; rw [List.length_append, List.length_cons] at e; omega)) (fun e w2 q => ?_)
                    rcases q with ⟨rfl, h1, h2⟩ | ⟨rfl, h1⟩
                    · exact ⟨true, rfl, .inl ⟨rfl, h1, (KpT.of_below hb (by have := HZ3.out; omega)).trans h2⟩⟩
                    · exact ⟨false, rfl, .inr ⟨rfl, h1⟩⟩
                  · intro go w5 u43 u44 u45 u46 u47 u48 u49 u50 u51 u52 u53 u54 u55 u56 u57 u58 hR
                    rcases hR with ⟨rfl, hJ5, hk5⟩ | ⟨rfl, hJx5⟩
                    · have HJ5 := Lib.hid hJ5; clear hJ5
                      have HK5 := Lib.hid hk5; clear hk5
                      go_wp2
                      go_roundw
                      case rel => exact ⟨p + 1, by omega, by go_num, by rw [take_snoc' _ _ _ HA.out, List.map_append, ← List.append_assoc]; exact HJ5.out, HB3.out.trans HK5.out.1, Nat.le_trans HZ3.out HK5.out.1.size, (HK5.out.2 Bv _ _ _ HBv3.out rfl).trans HBv3.out, (HK5.out.2 Bs _ _ _ HBs3.out rfl).trans HBs3.out⟩
                      case measure => simp [intOf]; omega
                    · have HJ5 := Lib.hid hJx5; clear hJx5
                      go_wp2
                      refine bodyPost_ret (results_none rfl _ _ _) rfl ⟨⟨_, rfl⟩, .inr ⟨_, ⟨rest, ?_⟩, HJ5.out⟩⟩
                      rw [HREST.out, List.append_assoc]
                      rfl
                · obtain rfl : p = s.areas.length := by omega
                  rw [List.take_length] at hJs
                  have HJs := Lib.hid hJs; clear hJs
                  have HBV := Lib.hid hbv; clear hbv
                  have HBS := Lib.hid hbs; clear hbs
                  go_wp2
                  go_roundw
                  case rel => exact ⟨q + 1, by omega, by go_num, by rw [take_flatMap HSG.out, show segPieces v.name s = s.areas.map (areaPiece v.name s) from if_pos HOD.out, ← List.append_assoc]; exact HJs.out, hB, hz, HBV.out⟩
                  case measure => simp [intOf]; omega
          · have n1 : ¬ s.kind = 1 := fun e => hod (.inl e)
            have n2 : ¬ s.kind = 2 := fun e => hod (.inr (.inl e))
            have n8 : ¬ s.kind = 8 := fun e => hod (.inr (.inr e))
            have nb1 : (s.kind != 1) = true := by simpa using n1
            have nb2 : (s.kind != 2) = true := by simpa using n2
            have nb8 : (s.kind != 8) = true := by simpa using n8
            clear n1 n2 n8
            have HOD := Lib.hid hod; clear hod
            go_upto_region 6 with (fail)
            clear q0 q1 q2 q3 q4 q5 q6 q7 q8 q9 q10
            generalize hW2 : wr.alloc _ = W2 at *
            generalize hBse : wr.heap.size = Bs at *
            clear hW2 hB hz hBse
            go_wp2
            go_roundw
            case rel => exact ⟨q + 1, by omega, by go_num, by rw [take_flatMap HSG.out, show segPieces v.name s = [] from if_neg HOD.out, List.append_nil]; exact HJ2.out, HB2.out, HZ2.out, HBv2.out⟩
            case measure => simp [intOf]; omega
        · obtain rfl : q = v.segs.length := by omega
          rw [List.take_length] at hJs
          have HJs := Lib.hid hJs; clear hJs
          have HBV := Lib.hid hbv; clear hbv
          go_wp2
          go_roundw
          case rel => exact ⟨k + 1, by omega, by go_num, by rw [take_flatMap HV.out]; exact HJs.out, hB, hz⟩
          case measure => simp [intOf]; omega
    · obtain rfl : k = vs.length := by omega
      rw [List.take_length] at hJs
      go_wp2
      go_end0
      exact ⟨⟨_, rfl⟩, .inl ⟨_, rfl, hJs⟩⟩

end Go.Proofs.Yteengifhndmjeaa
