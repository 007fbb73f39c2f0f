/- From a contract of a law to its statement: what all laws of this seat share. An argument that is a slice of ints, opened. -/
import Derived.Test.YteengifhndmjeaaBase
import Derived.ProofKit
import Derived.Deep.SlicePairs
import Derived.OpenShut
import Derived.Deep.Slices
namespace Go.Proofs.Yteengifhndmjeaa
open Go.ChangeShapes Go.WideShapes Go.ChangeAt Go.RowKit

theorem Try.own : ownKnob Try.prog.godebug = none := by kernel_rfl
theorem Try.laidOut : laidOutB Try.prog = true := by kernel_rfl

theorem trodAll_below {H : Type} {enc : TypeId × Value → H} {W W' : World} (hb : Below W.heap.size W W') : ∀ (ts : List TypeId) (vs : List Value) (ds : List (DataW H)) (ps : List MemPlace),
    DataW.TrodAll enc Try.prog W 0 (fun _ => true) true ts vs ds ps → (∀ t ∈ ts, Try.prog.readableRec t = true ∧ t < Try.prog.types.size) → (∀ x ∈ ps, x.block < W.heap.size) →
    DataW.TrodAll enc Try.prog W' 0 (fun b => decide (b < W.heap.size)) true ts vs ds ps
  | [], vs, ds, ps, h, _, _ => by
    obtain ⟨rfl, rfl, rfl⟩ := trodAll_nil h
    exact trodAll_mk0
  | t :: ts, vs, ds, ps, h, ht, hlt => by
    obtain ⟨v, vs', d, ds', p, q, rfl, rfl, rfl, h1, h2⟩ := trodAll_cons h
    obtain ⟨ha, hb'⟩ := ht t (by simp)
    exact trodAll_cons_mk (Below.trod Try.laidOut ha hb' h1 hb (fun x hx => hlt x (by simp [hx]))) (trodAll_below hb ts vs' ds' q h2 (fun t' h' => ht t' (by simp [h'])) (fun x hx => hlt x (by simp [hx])))

theorem wf_i64 {n : Int} (h : (Lit.int .i64 n).wf = true) : -9223372036854775808 ≤ n ∧ n ≤ 9223372036854775807 := by
  have h1 : IntKind.i64.min = -9223372036854775808 := rfl
  have h2 : IntKind.i64.max = 9223372036854775807 := rfl
  simp [Lit.wf, h1, h2] at h
  exact h

theorem wf_u8 {n : Int} (h : (Lit.int .u8 n).wf = true) : 0 ≤ n ∧ n ≤ 255 := by
  have h1 : IntKind.u8.min = 0 := rfl
  have h2 : IntKind.u8.max = 255 := rfl
  simp [Lit.wf, h1, h2] at h
  exact h

set_option maxRecDepth 100000 in
/-- An argument that is a slice of ranges, opened. -/
theorem openR {H : Type} {enc : TypeId × Value → H} {W : World} {base : Nat} {v : Value} {d : DataW H} {p : List MemPlace} (hv : Value.okWide Try.prog W .any base 22 v)
    (h : DataW.Trod enc Try.prog W 0 (fun _ => true) true 22 v d p) :
    ∃ l, RdR W v l ∧ ∀ q ∈ l, -9223372036854775808 ≤ q.1 ∧ q.1 ≤ 9223372036854775807 ∧ -9223372036854775808 ≤ q.2 ∧ q.2 ≤ 9223372036854775807 := by
  obtain ⟨a0, len0, cap0, rfl⟩ := okWide_slice Try.underlying22 hv
  obtain ⟨fuel, hf⟩ := h
  rcases Go.Deep.open_slice_pairs Try.underlying22 Try.underlying36 (by kernel_rfl) rfl rfl (by kernel_rfl) (by kernel_rfl) hf with ⟨hcs, _⟩ | ⟨a, len, cap, m, n, V0, V1, D0, D1, P0, P1, hcs, _, hl, hm, hmm, _, hi⟩
  · simp [Value.cells] at hcs
    obtain ⟨rfl, rfl, rfl⟩ := hcs
    exact ⟨[], RdR.nil W, by simp⟩
  · simp [Value.cells] at hcs
    obtain ⟨rfl, rfl, rfl⟩ := hcs
    simp only [if_true] at hmm
    have key : ∀ i, i < len0 → ∃ q : Int × Int, W.cell? (a.add (i * 2)) = some (.int .i64 q.1) ∧ W.cell? (a.add (i * 2 + 1)) = some (.int .i64 q.2) ∧ -9223372036854775808 ≤ q.1 ∧ q.1 ≤ 9223372036854775807 ∧ -9223372036854775808 ≤ q.2 ∧ q.2 ≤ 9223372036854775807 := fun i hil => by
      obtain ⟨c0, c1, t0, t1⟩ := hi i (by omega)
      obtain ⟨x, e0, _, w0⟩ := DataW.trod_int Try.underlying3 t0
      obtain ⟨y, e1, _, w1⟩ := DataW.trod_int Try.underlying3 t1
      simp only [List.cons.injEq, and_true] at e0 e1
      rw [e0] at c0
      rw [e1] at c1
      have := wf_i64 w0
      have := wf_i64 w1
      exact ⟨(x, y), c0, c1, by simp only []; omega⟩
    obtain ⟨q, hq⟩ := Go.Deep.choose_lt key
    refine ⟨(List.range len0).map q, ⟨some a, cap0, by simp, by simpa using hl, by unfold maxLen at hm; omega, fun h0 => ?_⟩, fun r hr => ?_⟩
    · obtain ⟨b, off, spot⟩ := a
      have h00 := (hq 0 (by simpa using h0)).1
      have hs : spot = none := by simpa [Addr.add] using World.cell?_spot h00
      subst hs
      refine ⟨b, off, rfl, World.block_lt_of_cell? W _ h00, fun i p hp => ?_⟩
      have hil : i < len0 := by simpa using (List.getElem?_eq_some_iff.1 hp).1
      have hp' : q i = p := by simpa [hil] using hp
      have hh := hq i hil
      rw [hp', Addr.add_lit, Addr.add_lit] at hh
      exact ⟨hh.1, by rw [Nat.add_assoc]; exact hh.2.1⟩
    · rw [List.mem_map] at hr
      obtain ⟨i, hi', rfl⟩ := hr
      exact (hq i (List.mem_range.1 hi')).2.2

end Go.Proofs.Yteengifhndmjeaa

namespace Go.Proofs.Yteengifhndmjeaa
open Go.ChangeShapes Go.WideShapes Go.ChangeAt Go.RowKit

set_option maxRecDepth 100000 in
theorem openL {H : Type} {enc : TypeId × Value → H} {W : World} {base : Nat} {v : Value} {d : DataW H} {p : List MemPlace} (hv : Value.okWide Try.prog W .any base 41 v)
    (h : DataW.Trod enc Try.prog W 0 (fun _ => true) true 41 v d p) :
    ∃ l, RdI W v l ∧ ∀ q ∈ l, -9223372036854775808 ≤ q ∧ q ≤ 9223372036854775807 := by
  obtain ⟨a0, len0, cap0, rfl⟩ := okWide_slice Try.underlying41 hv
  obtain ⟨fuel, hf⟩ := h
  rcases Go.Deep.open_slice1 Try.underlying41 (by kernel_rfl) hf with ⟨hcs, _⟩ | ⟨a, len, cap, m, n, V, D, Pl, hcs, _, hl, hm, hmm, _, hi⟩
  · simp [Value.cells] at hcs
    obtain ⟨rfl, rfl, rfl⟩ := hcs
    exact ⟨[], RdI.nil W, by simp⟩
  · simp [Value.cells] at hcs
    obtain ⟨rfl, rfl, rfl⟩ := hcs
    simp only [if_true] at hmm
    have key : ∀ i, i < len0 → ∃ q : Int, W.cell? (a.add i) = some (.int .i64 q) ∧ -9223372036854775808 ≤ q ∧ q ≤ 9223372036854775807 := fun i hil => by
      obtain ⟨c0, t0⟩ := hi i (by omega)
      obtain ⟨x, e0, _, w0⟩ := DataW.trod_int Try.underlying3 t0
      simp only [List.cons.injEq, and_true] at e0
      rw [e0] at c0
      exact ⟨x, c0, wf_i64 w0⟩
    obtain ⟨q, hq⟩ := Go.Deep.choose_lt key
    refine ⟨(List.range len0).map q, ⟨some a, cap0, by simp, by simpa using hl, by unfold maxLen at hm; omega, fun h0 => ?_⟩, fun r hr => ?_⟩
    · obtain ⟨b, off, spot⟩ := a
      have h00 := (hq 0 (by simpa using h0)).1
      have hs : spot = none := by simpa [Addr.add] using World.cell?_spot h00
      subst hs
      refine ⟨b, off, rfl, World.block_lt_of_cell? W _ h00, fun i p hp => ?_⟩
      have hil : i < len0 := by simpa using (List.getElem?_eq_some_iff.1 hp).1
      have hp' : q i = p := by simpa [hil] using hp
      have hh := hq i hil
      rw [hp', Addr.add_lit] at hh
      exact hh.1
    · rw [List.mem_map] at hr
      obtain ⟨i, hi', rfl⟩ := hr
      exact (hq i (List.mem_range.1 hi')).2

end Go.Proofs.Yteengifhndmjeaa
