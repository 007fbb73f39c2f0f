/- Slices of ranges and of ints, as lists: what they read as, and rows that a call owns. Plain facts; no walk. -/
import Derived.Test.YteengifhndmjeaaRows
import Derived.WalkKit
import Derived.Lib.Hide
import Derived.Deep.QuietTactic
import Derived.BigQuiet
import Derived.Test.YteengifhndmjeaaReg
namespace Go.Proofs.Yteengifhndmjeaa
open Go.RowKit

theorem ret_bool {a b : Bool} (h : a = b) : Ending.returned (.bool a) = .returned (.bool b) := by rw [h]
theorem ret_int {k : IntKind} {a b : Int} (h : a = b) : Ending.returned (.int k a) = .returned (.int k b) := by rw [h]

theorem bcell {W w1 : World} (hb : Below W.heap.size W w1) : (∀ b o, b < W.heap.size → w1.cell? ⟨b, o, none⟩ = W.cell? ⟨b, o, none⟩) ∧ (∀ b o, b < W.heap.size → w1.frozen? ⟨b, o, none⟩ = W.frozen? ⟨b, o, none⟩) :=
  ⟨fun b o h => hb.cell (p := ⟨b, o, none⟩) h, fun b o h => hb.frozen (p := ⟨b, o, none⟩) h⟩

/-- A cell of the block that was made last. -/
theorem cell_new {w : World} {cs : Array Value} {t : TypeId} {b i : Nat} {v : Value} (hb : b = w.heap.size) (h : cs[i]? = some v) : (w.alloc (.cells cs t)).cell? ⟨b, i, none⟩ = some v := by
  subst hb
  have : (w.alloc (.cells cs t)).heap[w.heap.size]? = some (.cells cs t (0, 0)) := heap_alloc_new w _
  unfold World.cell?
  simp only [this]
  simpa using h

/-- Two steps of which each leaves what was there. -/
theorem bel {a b c : World} (h : Below a.heap.size a b) (k : Below b.heap.size b c) : Below a.heap.size a c := h.trans (k.mono h.size)

theorem bdrewN {B : Nat} {a w : World} (h : Below B a w) (n : Nat) : Below B a (w.drewN n) := ⟨h.os, h.tape, h.output, h.size, h.block⟩

/-- A world that has come of w by draws and new blocks alone. -/
structure ExtBy where
  d : Nat
  os : Array Obj
instance : Inhabited ExtBy := ⟨⟨0, #[]⟩⟩
def ext (w : World) (p : ExtBy) : World := { w with drawn := p.d, heap := w.heap ++ p.os }
theorem below_ext (w : World) (p : ExtBy) : Below w.heap.size w (ext w p) :=
  ⟨rfl, rfl, rfl, by simp [ext], fun k hk => by simp [ext, Array.getElem?_append, hk]⟩
theorem ext_of_below {w w' : World} (h : Below w.heap.size w w') : ∃ p : ExtBy, w' = ext w p := by
  refine ⟨⟨w'.drawn, w'.heap.extract w.heap.size w'.heap.size⟩, ?_⟩
  have hh : w'.heap = w.heap ++ w'.heap.extract w.heap.size w'.heap.size := by
    apply Array.ext_getElem?
    intro i
    rw [Array.getElem?_append]
    split
    · rename_i hi; exact h.block i hi
    · rename_i hi
      have := h.size
      rw [Array.getElem?_extract]
      by_cases h2 : i < w'.heap.size
      · rw [if_pos (by omega)]; congr 1; omega
      · rw [if_neg (by omega)]; exact Array.getElem?_eq_none (by omega)
  unfold ext
  cases w'
  simp only [World.mk.injEq]
  exact ⟨hh, h.tape, trivial, h.os, h.output⟩
theorem ext_below {w w' : World} (h : ∃ p : ExtBy, w' = ext w p) : Below w.heap.size w w' := by
  obtain ⟨p, rfl⟩ := h
  exact below_ext w p
theorem cell_ext {w : World} {b o : Nat} {v : Value} (hb : b < w.heap.size) (h : w.cell? ⟨b, o, none⟩ = some v) (p : ExtBy) : (ext w p).cell? ⟨b, o, none⟩ = some v :=
  ((below_ext w p).cell (p := ⟨b, o, none⟩) hb).trans h
theorem wp_region_quiet_ext {P : Program} {id : Nat} {Q : Exit → Act → World → Prop} {a : Act} {w : World} {l : List Oper} (hm : P.follows .mixedOrders = true) (hB : Region.lexB .any l.toArray = true)
    (h : wpQuiet P l.toArray (fun w' => ∃ p : ExtBy, w' = ext w p) (fun a' => ∀ w', (∃ p : ExtBy, w' = ext w p) → Q .normal a' w') l a) : (Code.region id l.toArray true).wp P Q a w :=
  wp_region_quiet (C := fun w' => ∃ p : ExtBy, w' = ext w p) hm hB (ext_of_below ((Below.refl _ w).drew)) (by simpa using h)
theorem wp_region_tail_ext {P : Program} {id : Nat} {Q : Exit → Act → World → Prop} {a : Act} {w : World} {l : List Oper} (n : Nat) (hm : P.follows .mixedOrders = true) (hB : Region.lexTailB .any l.toArray n = true)
    (h : wpQuiet P l.toArray (fun w' => ∃ p : ExtBy, w' = ext w p) (fun a' => ∀ w', (∃ p : ExtBy, w' = ext w p) → wpList P l.toArray Q (l.drop n) a' w') (l.take n) a) : (Code.region id l.toArray true).wp P Q a w :=
  wp_region_quiet_tail (C := fun w' => ∃ p : ExtBy, w' = ext w p) n hm hB (ext_of_below ((Below.refl _ w).drew)) h
theorem wp_region_mtail_ext {P : Program} {id : Nat} {Q : Exit → Act → World → Prop} {a a' : Act} {w : World} {o : Oper} {l : List Oper} (x : Operand) (n : Nat) (hm : P.follows .mixedOrders = true) (ho : o.op = .move x) (hg : o.guard = none)
    (hB0 : (Region.noSelect (o :: l).toArray && Region.free .any (o :: l).toArray (Array.replicate (o :: l).toArray.size false) 0 && (Region.ready .any (o :: l).toArray (Array.replicate (o :: l).toArray.size false)).contains 0) = true)
    (hB : fromB .any (o :: l).toArray 1 n ((Array.replicate (o :: l).toArray.size false).setIfInBounds 0 true) = true)
    (hQ' : ∀ c (v : Value) a w, Q (.panic c) (a.put o.dst v) w → Q (.panic c) a w) (ha : a.put o.dst (a.eval x) = a')
    (h : wpQuiet P (o :: l).toArray (fun w' => ∃ p : ExtBy, w' = ext w p) (fun a' => ∀ w', (∃ p : ExtBy, w' = ext w p) → wpList P (o :: l).toArray Q ((o :: l).drop n) a' w') (((o :: l).take n).drop 1) a') : (Code.region id (o :: l).toArray true).wp P Q a w :=
  wp_region_move_tail (C := fun w' => ∃ p : ExtBy, w' = ext w p) x n hm ho hg hB0 hB hQ' (ext_of_below ((Below.refl _ w).drew)) (by rw [ha]; exact h)
theorem ext_of {P : Program} {f : FuncId} {args : Array Value} {w : World} {p : ExtBy} {v : Value}
    (h : Calls P f args (ext w p) fun e w' => e = .returned v ∧ Below (ext w p).heap.size (ext w p) w') : Calls P f args (ext w p) fun e w'' => e = .returned v ∧ ∃ p : ExtBy, w'' = ext w p :=
  h.mono fun _ _ ⟨he, hb⟩ => ⟨he, ext_of_below (bel (below_ext w p) hb)⟩

/-- The cells of a list of ranges, from an address on. -/
def CellsR (w : World) (b off : Nat) (l : List (Int × Int)) : Prop :=
  ∀ (i : Nat) (p : Int × Int), l[i]? = some p → w.cell? ⟨b, off + i * 2, none⟩ = some (.int .i64 p.1) ∧ w.cell? ⟨b, off + i * 2 + 1, none⟩ = some (.int .i64 p.2)

theorem getSome0 {α : Type} (l : List α) (k : Nat) (h : k < l.length) : ∃ x, l[k]? = some x := ⟨l[k], List.getElem?_eq_getElem h⟩

/-- A slice of ranges that reads as a list. -/
def RdR (w : World) (v : Value) (l : List (Int × Int)) : Prop :=
  ∃ p cap, v = .slice p l.length cap ∧ l.length ≤ cap ∧ cap ≤ 9223372036854775807 ∧ (0 < l.length → ∃ b off, p = some ⟨b, off, none⟩ ∧ b < w.heap.size ∧ CellsR w b off l)

def cellsR : List (Int × Int) → List Value
  | [] => []
  | p :: l => .int .i64 p.1 :: .int .i64 p.2 :: cellsR l

/-- A slice of ranges that the call owns, from block B on. -/
def OwnR (w : World) (B : Nat) (v : Value) (l : List (Int × Int)) : Prop := w.ownsRow B 36 2 v l.length (cellsR l)

theorem cellsR_append (a b : List (Int × Int)) : cellsR (a ++ b) = cellsR a ++ cellsR b := by
  induction a with
  | nil => rfl
  | cons p a ih => simp [cellsR, ih]

theorem cellsR_length (a : List (Int × Int)) : (cellsR a).length = a.length * 2 := by
  induction a with
  | nil => rfl
  | cons p a ih => simp [cellsR, ih]; omega

theorem cellsR_get (l : List (Int × Int)) : ∀ (i : Nat) (p : Int × Int), l[i]? = some p → (cellsR l)[i * 2]? = some (.int .i64 p.1) ∧ (cellsR l)[i * 2 + 1]? = some (.int .i64 p.2) := by
  induction l with
  | nil => intro i p h; simp at h
  | cons q l ih =>
    intro i p h
    cases i with
    | zero => simp at h; subst h; simp [cellsR]
    | succ i =>
      have := ih i p (by simpa using h)
      rw [show (i + 1) * 2 = i * 2 + 1 + 1 from by omega]
      simpa [cellsR] using this

theorem cellsR_one (l : List (Int × Int)) : ∀ u ∈ cellsR l, u.oneCell' = true := by
  induction l with
  | nil => intro u h; cases h
  | cons p l ih =>
    intro u h
    simp [cellsR] at h
    rcases h with rfl | rfl | h
    · rfl
    · rfl
    · exact ih u h

theorem OwnR.rd {w : World} {B : Nat} {v : Value} {l : List (Int × Int)} (h : OwnR w B v l) : RdR w v l := by
  obtain ⟨h1, h2⟩ := h
  rcases h2 with ⟨rfl, hn⟩ | ⟨g, cap, cur, rfl, hb, hg, hnc, hcm, hcs, ht⟩
  · exact ⟨none, 0, by rw [hn], by omega, by omega, fun h => absurd h (by omega)⟩
  · refine ⟨some ⟨g, 0, none⟩, cap, rfl, hnc, by unfold maxLen at hcm; omega, fun _ => ⟨g, 0, rfl, (Array.getElem?_eq_some_iff.1 hg).1, fun i p hp => ?_⟩⟩
    have hc := cellsR_get l i p hp
    have hil : i < l.length := (List.getElem?_eq_some_iff.1 hp).1
    rw [← ht] at hc
    rw [List.getElem?_take_of_lt (by omega), List.getElem?_take_of_lt (by omega)] at hc
    refine ⟨?_, ?_⟩
    · rw [cell_of_row w g (0 + i * 2) cur _ (0, 0) hg, Nat.zero_add]; simpa using hc.1
    · rw [cell_of_row w g (0 + i * 2 + 1) cur _ (0, 0) hg, Nat.zero_add]; simpa using hc.2

theorem CellsR.below {W w : World} (hb : Below W.heap.size W w) {b off : Nat} {l : List (Int × Int)} (hbl : b < W.heap.size) (h : CellsR W b off l) : CellsR w b off l := fun i p hp => by
  have := h i p hp
  rw [hb.cell (p := ⟨b, off + i * 2, none⟩) hbl, hb.cell (p := ⟨b, off + i * 2 + 1, none⟩) hbl]
  exact this

theorem RdR.below {W w : World} {v : Value} {l : List (Int × Int)} (h : RdR W v l) (hb : Below W.heap.size W w) : RdR w v l := by
  obtain ⟨p, cap, hv, hl, hc, hp⟩ := h
  exact ⟨p, cap, hv, hl, hc, fun h0 => by obtain ⟨b, off, e, hbl, hcc⟩ := hp h0; exact ⟨b, off, e, Nat.lt_of_lt_of_le hbl hb.size, hcc.below hb hbl⟩⟩

theorem OwnR.below {W w : World} {B : Nat} {v : Value} {l : List (Int × Int)} (h : OwnR W B v l) (hb : Below W.heap.size W w) : OwnR w B v l := by
  obtain ⟨h1, h2⟩ := h
  refine ⟨h1, ?_⟩
  rcases h2 with hn | ⟨g, cap, cur, hv, hbb, hg, r⟩
  · exact .inl hn
  · exact .inr ⟨g, cap, cur, hv, hbb, by rw [hb.block g (Array.getElem?_eq_some_iff.1 hg).1]; exact hg, r⟩

theorem OwnR.nil (w : World) (B : Nat) : OwnR w B (.slice none 0 0) [] := World.ownsRow_nil w B _ 2

theorem OwnR.mono {w : World} {B B' : Nat} {v : Value} {l : List (Int × Int)} (h : OwnR w B v l) (hB : B' ≤ B) : OwnR w B' v l := by
  obtain ⟨h1, h2⟩ := h
  refine ⟨h1, ?_⟩
  rcases h2 with hn | ⟨g, cap, cur, hv, hbb, r⟩
  · exact .inl hn
  · exact .inr ⟨g, cap, cur, hv, by omega, r⟩

theorem RdR.nil (w : World) : RdR w (.slice none 0 0) [] := ⟨none, 0, rfl, by simp, by omega, fun h => absurd h (by simp)⟩

/-- The cells of a list of ints. -/
def CellsI (w : World) (b off : Nat) (l : List Int) : Prop := ∀ (i : Nat) (n : Int), l[i]? = some n → w.cell? ⟨b, off + i, none⟩ = some (.int .i64 n)

def RdI (w : World) (v : Value) (l : List Int) : Prop :=
  ∃ p cap, v = .slice p l.length cap ∧ l.length ≤ cap ∧ cap ≤ 9223372036854775807 ∧ (0 < l.length → ∃ b off, p = some ⟨b, off, none⟩ ∧ b < w.heap.size ∧ CellsI w b off l)

def OwnI (w : World) (B : Nat) (v : Value) (l : List Int) : Prop := w.ownsRow B 3 1 v l.length (l.map (Value.int .i64))

theorem OwnI.rd {w : World} {B : Nat} {v : Value} {l : List Int} (h : OwnI w B v l) : RdI w v l := by
  obtain ⟨h1, h2⟩ := h
  rcases h2 with ⟨rfl, hn⟩ | ⟨g, cap, cur, rfl, hb, hg, hnc, hcm, hcs, ht⟩
  · exact ⟨none, 0, by rw [hn], by omega, by omega, fun h => absurd h (by omega)⟩
  · refine ⟨some ⟨g, 0, none⟩, cap, rfl, hnc, by unfold maxLen at hcm; omega, fun _ => ⟨g, 0, rfl, (Array.getElem?_eq_some_iff.1 hg).1, fun i p hp => ?_⟩⟩
    have hil : i < l.length := (List.getElem?_eq_some_iff.1 hp).1
    have hc : (l.map (Value.int .i64))[i]? = some (Value.int .i64 p) := by simp [hp]
    rw [← ht, List.getElem?_take_of_lt (by omega)] at hc
    rw [cell_of_row w g (0 + i) cur _ (0, 0) hg, Nat.zero_add]
    simpa using hc

theorem CellsI.below {W w : World} (hb : Below W.heap.size W w) {b off : Nat} {l : List Int} (hbl : b < W.heap.size) (h : CellsI W b off l) : CellsI w b off l := fun i p hp => by
  rw [hb.cell (p := ⟨b, off + i, none⟩) hbl]
  exact h i p hp

theorem RdI.below {W w : World} {v : Value} {l : List Int} (h : RdI W v l) (hb : Below W.heap.size W w) : RdI w v l := by
  obtain ⟨p, cap, hv, hl, hc, hp⟩ := h
  exact ⟨p, cap, hv, hl, hc, fun h0 => by obtain ⟨b, off, e, hbl, hcc⟩ := hp h0; exact ⟨b, off, e, Nat.lt_of_lt_of_le hbl hb.size, hcc.below hb hbl⟩⟩

theorem OwnI.below {W w : World} {B : Nat} {v : Value} {l : List Int} (h : OwnI W B v l) (hb : Below W.heap.size W w) : OwnI w B v l := by
  obtain ⟨h1, h2⟩ := h
  refine ⟨h1, ?_⟩
  rcases h2 with hn | ⟨g, cap, cur, hv, hbb, hg, r⟩
  · exact .inl hn
  · exact .inr ⟨g, cap, cur, hv, hbb, by rw [hb.block g (Array.getElem?_eq_some_iff.1 hg).1]; exact hg, r⟩
theorem OwnI.mono {w : World} {B B' : Nat} {v : Value} {l : List Int} (h : OwnI w B v l) (hB : B' ≤ B) : OwnI w B' v l := by
  obtain ⟨h1, h2⟩ := h
  refine ⟨h1, ?_⟩
  rcases h2 with hn | ⟨g, cap, cur, hv, hbb, r⟩
  · exact .inl hn
  · exact .inr ⟨g, cap, cur, hv, by omega, r⟩
theorem OwnI.nil (w : World) (B : Nat) : OwnI w B (.slice none 0 0) [] := World.ownsRow_nil w B _ 1
theorem RdI.nil (w : World) : RdI w (.slice none 0 0) [] := ⟨none, 0, rfl, by simp, by omega, fun h => absurd h (by simp)⟩

theorem infoR : (Try.prog.info? 36).map (fun i => (i.zero, i.size, i.bytes)) = some (some (.agg #[.int .i64 0, .int .i64 0]), 2, 16) := by kernel_rfl
theorem infoI : (Try.prog.info? 3).map (fun i => (i.zero, i.size, i.bytes)) = some (some (.int .i64 0), 1, 8) := by kernel_rfl

/-- append of one range to a slice that the call owns. -/
theorem wpl_appendR {w : World} {ops : Array Oper} {rest : List Oper} {o : Oper} {a : Act} {Q : Exit → Act → World → Prop} (hgd : o.guard = none) (s x : Operand)
    (ho : o.op = .call { callee := .builtin .append, args := #[s, x], argTypes := #[22, 22] })
    (B : Nat) (v : Value) (l : List (Int × Int)) (p : Int × Int) (hs : a.eval s = v) (hown : OwnR w B v l) (g c : Nat) (hx : a.eval x = .slice (some ⟨g, 0, none⟩) 1 c)
    (hc1 : w.cell? ⟨g, 0, none⟩ = some (.int .i64 p.1)) (hc2 : w.cell? ⟨g, 1, none⟩ = some (.int .i64 p.2)) (hl : l.length ≤ 100000000) (hB : B ≤ w.heap.size)
    (h : ∀ v' w', OwnR w' B v' (l ++ [p]) → Below B w w' → w.grownBy w' v.ownBlock → wpList Try.prog ops Q rest (a.put o.dst v') w') : wpList Try.prog ops Q (o :: rest) a w := by
  obtain ⟨i0, hi, hz0, hz1, hz2⟩ := info_parts infoR
  refine wpList_append_own w hgd s x 22 ho B 36 i0 _ 2 16 Try.underlying22 hi hz0 hz1 hz2 rfl (by decide) v l.length (cellsR l) hs hown ⟨g, 0, none⟩ 1 c (cellsR [p]) hx rfl (fun j u hu => ?_) (cellsR_one _) (by unfold maxLen; omega) (by omega) hB (fun v' w' ho' hg _ => ?_)
  · rw [Addr.add_lit, Nat.zero_add]
    match j, hu with
    | 0, hu => simp [cellsR] at hu; rw [← hu]; exact hc1
    | 1, hu => simp [cellsR] at hu; rw [← hu]; exact hc2
    | j + 2, hu => simp [cellsR] at hu
  · refine h v' w' ?_ ((Below.refl B w).grown hg hB (fun k hk => (hown.lt k hk).1)) hg
    unfold OwnR
    rw [cellsR_append, List.length_append]
    exact ho'

/-- append of a whole slice of ranges to one that the call owns. -/
theorem wpl_appendRs {w : World} {ops : Array Oper} {rest : List Oper} {o : Oper} {a : Act} {Q : Exit → Act → World → Prop} (hgd : o.guard = none) (s x : Operand)
    (ho : o.op = .call { callee := .builtin .append, args := #[s, x], argTypes := #[22, 22] })
    (B : Nat) (v : Value) (l m : List (Int × Int)) (hs : a.eval s = v) (hown : OwnR w B v l) (b off c : Nat) (hx : a.eval x = .slice (some ⟨b, off, none⟩) m.length c)
    (hc : CellsR w b off m) (hl : l.length + m.length ≤ 100000000) (hB : B ≤ w.heap.size)
    (h : ∀ v' w', OwnR w' B v' (l ++ m) → Below B w w' → wpList Try.prog ops Q rest (a.put o.dst v') w') : wpList Try.prog ops Q (o :: rest) a w := by
  obtain ⟨i0, hi, hz0, hz1, hz2⟩ := info_parts infoR
  refine wpList_append_own w hgd s x 22 ho B 36 i0 _ 2 16 Try.underlying22 hi hz0 hz1 hz2 rfl (by decide) v l.length (cellsR l) hs hown ⟨b, off, none⟩ m.length c (cellsR m) hx (cellsR_length m) (fun j u hu => ?_) (cellsR_one _) (by unfold maxLen; omega) (by omega) hB (fun v' w' ho' hg _ => ?_)
  · rw [Addr.add_lit]
    have hj : j < m.length * 2 := by rw [← cellsR_length]; exact (List.getElem?_eq_some_iff.1 hu).1
    obtain ⟨p, hp⟩ := getSome0 m (j / 2) (by omega)
    have h1 := cellsR_get m (j / 2) p hp
    have h2 := hc (j / 2) p hp
    rcases Nat.mod_two_eq_zero_or_one j with hm | hm
    · have e : j / 2 * 2 = j := by omega
      rw [e] at h1 h2
      rw [h1.1] at hu
      rw [h2.1, hu]
    · have e : j / 2 * 2 + 1 = j := by omega
      rw [e] at h1
      rw [h1.2] at hu
      rw [← hu, ← h2.2, Nat.add_assoc, e]
  · refine h v' w' ?_ ((Below.refl B w).grown hg hB (fun k hk => (hown.lt k hk).1))
    unfold OwnR
    rw [cellsR_append, List.length_append]
    exact ho'

/-- append of two ints to a slice that the call owns. -/
theorem wpl_appendI2 {w : World} {ops : Array Oper} {rest : List Oper} {o : Oper} {a : Act} {Q : Exit → Act → World → Prop} (hgd : o.guard = none) (s x : Operand)
    (ho : o.op = .call { callee := .builtin .append, args := #[s, x], argTypes := #[41, 41] })
    (B : Nat) (v : Value) (l : List Int) (p q : Int) (hs : a.eval s = v) (hown : OwnI w B v l) (g c : Nat) (hx : a.eval x = .slice (some ⟨g, 0, none⟩) 2 c)
    (hc1 : w.cell? ⟨g, 0, none⟩ = some (.int .i64 p)) (hc2 : w.cell? ⟨g, 1, none⟩ = some (.int .i64 q)) (hl : l.length ≤ 100000000) (hB : B ≤ w.heap.size)
    (h : ∀ v' w', OwnI w' B v' (l ++ [p, q]) → Below B w w' → wpList Try.prog ops Q rest (a.put o.dst v') w') : wpList Try.prog ops Q (o :: rest) a w := by
  obtain ⟨i0, hi, hz0, hz1, hz2⟩ := info_parts infoI
  refine wpList_append_own w hgd s x 41 ho B 3 i0 _ 1 8 Try.underlying41 hi hz0 hz1 hz2 rfl (by decide) v l.length (l.map (Value.int .i64)) hs hown ⟨g, 0, none⟩ 2 c [.int .i64 p, .int .i64 q] hx rfl (fun j u hu => ?_) (fun u hu => by simp at hu; rcases hu with rfl | rfl <;> rfl) (by unfold maxLen; omega) (by omega) hB (fun v' w' ho' hg _ => ?_)
  · rw [Addr.add_lit, Nat.zero_add]
    match j, hu with
    | 0, hu => simp at hu; rw [← hu]; exact hc1
    | 1, hu => simp at hu; rw [← hu]; exact hc2
    | j + 2, hu => simp at hu
  · refine h v' w' ?_ ((Below.refl B w).grown hg hB (fun k hk => (hown.lt k hk).1))
    unfold OwnI
    rw [List.map_append, List.length_append]
    exact ho'

/-- A slice of ranges that the call owns and that is not empty: its last element, and where it lies. -/
theorem OwnR.last {w : World} {B : Nat} {v : Value} {i : List (Int × Int)} {q : Int × Int} (h : OwnR w B v (i ++ [q])) :
    ∃ g cap, v = .slice (some ⟨g, 0, none⟩) (i.length + 1) cap ∧ B ≤ g ∧ g < w.heap.size ∧ i.length + 1 ≤ cap ∧ cap ≤ 9223372036854775807 ∧
      w.cell? ⟨g, i.length * 2, none⟩ = some (.int .i64 q.1) ∧ w.cell? ⟨g, i.length * 2 + 1, none⟩ = some (.int .i64 q.2) ∧ w.frozen? ⟨g, i.length * 2 + 1, none⟩ = false ∧
      ∀ z : Int, OwnR (w.setCell ⟨g, i.length * 2 + 1, none⟩ (.int .i64 z)) B v (i ++ [(q.1, z)]) := by
  have hl : (i ++ [q]).length = i.length + 1 := by simp
  unfold OwnR at h
  rw [hl] at h
  rcases h.2 with ⟨_, hn⟩ | ⟨g, cap, cur, rfl, hb, hg, hnc, hcm, hcs, ht⟩
  · omega
  · have hget := cellsR_get (i ++ [q]) i.length q (by simp)
    refine ⟨g, cap, rfl, hb, (Array.getElem?_eq_some_iff.1 hg).1, hnc, by unfold maxLen at hcm; omega, ?_, ?_, h.frozenAt _, fun z => ?_⟩
    · rw [h.cellAt _ (by omega)]; exact hget.1
    · rw [h.cellAt _ (by omega)]; exact hget.2
    · have h2 := (h.stored (i.length * 2 + 1) (.int .i64 z)).1
      unfold OwnR
      rw [show (i ++ [(q.1, z)]).length = i.length + 1 from by simp]
      have e : (cellsR (i ++ [q])).set (i.length * 2 + 1) (.int .i64 z) = cellsR (i ++ [(q.1, z)]) := by
        rw [cellsR_append, cellsR_append, List.set_append_right _ _ (by rw [cellsR_length]; omega), cellsR_length, show i.length * 2 + 1 - i.length * 2 = 1 from by omega]
        rfl
      rw [e] at h2
      exact h2

theorem OwnR.setLast {w : World} {B g n cap : Nat} {i : List (Int × Int)} {q : Int × Int} (h : OwnR w B (.slice (some ⟨g, 0, none⟩) n cap) (i ++ [q])) (z : Int) :
    OwnR (w.setCell ⟨g, i.length * 2 + 1, none⟩ (.int .i64 z)) B (.slice (some ⟨g, 0, none⟩) n cap) (i ++ [(q.1, z)]) := by
  obtain ⟨g', cap', e, _, _, _, _, _, _, _, hst⟩ := h.last
  cases e
  exact hst z

theorem getSome {α : Type} (l : List α) (k : Nat) (h : k < l.length) : ∃ x, l[k]? = some x := ⟨l[k], List.getElem?_eq_getElem h⟩
theorem take_snoc' {α : Type} (l : List α) (k : Nat) (x : α) (h : l[k]? = some x) : l.take (k + 1) = l.take k ++ [x] := by
  obtain ⟨hk, rfl⟩ := List.getElem?_eq_some_iff.1 h
  exact List.take_succ_eq_append_getElem hk

def vldB (s l : Int) : Bool := decide (0 ≤ s) && decide (0 ≤ l) && decide (s ≤ 1073741824) && decide (l ≤ 1073741824 - s)
def valB (l : List (Int × Int)) : Bool := l.all fun p => vldB p.1 p.2

end Go.Proofs.Yteengifhndmjeaa
