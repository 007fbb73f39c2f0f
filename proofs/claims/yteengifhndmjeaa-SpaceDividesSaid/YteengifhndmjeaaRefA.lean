/- Contracts of the reference: insert. -/
import Derived.Test.YteengifhndmjeaaRanE
import Derived.Deep.RegionLaw
import Derived.Laws.AppendOwnNone
namespace Go.Proofs.Yteengifhndmjeaa
open Go.RowKit

theorem cellsI_get (l : List Int) (j : Nat) (u : Value) (h : (l.map (Value.int .i64))[j]? = some u) : ∃ n, l[j]? = some n ∧ u = .int .i64 n := by
  rw [List.getElem?_map] at h
  cases hl : l[j]? with
  | none => rw [hl] at h; cases h
  | some n => rw [hl] at h; cases h; exact ⟨n, rfl, rfl⟩

/-- append of a slice of ints to one that the call owns. -/
theorem appI_run (w : World) (B : Nat) (v vx : Value) (l m : List Int) (ty : TypeId) (hown : OwnI w B v l) (hx : RdI w vx m) (hlen : l.length + m.length ≤ 100000000) (hB : B ≤ w.heap.size) :
    ∃ v' w', (Builtin.append_ #[41, 41] ty #[v, vx]).run Try.prog w = .ok v' w' ∧ OwnI w' B v' (l ++ m) ∧ w.grownBy w' v.ownBlock := by
  obtain ⟨i0, hi, hz0, hz1, hz2⟩ := info_parts infoI
  obtain ⟨p, cap, rfl, hlc, hcap, hp⟩ := hx
  cases p with
  | none =>
    have hm : m = [] := by
      cases m with
      | nil => rfl
      | cons a m => obtain ⟨b, off, e, _⟩ := hp (by simp); cases e
    subst hm
    refine ⟨v, w, ?_, by simpa using hown, ⟨rfl, rfl, rfl, Nat.le_refl _, fun _ _ _ => rfl⟩⟩
    rcases hown.2 with ⟨rfl, hn⟩ | ⟨g, cap', cur, rfl, _, _, hnc, _⟩
    · simp [Builtin.append_, run_underlying Try.underlying41, sizeOf, typeInfo, hi, Builtin.lenOf, Builtin.firstCells]
    · simp [Builtin.append_, run_underlying Try.underlying41, sizeOf, typeInfo, hi, Builtin.lenOf, Builtin.firstCells, hnc, storeCells]
  | some a =>
    by_cases h0 : 0 < m.length
    · obtain ⟨b, off, e, hb, hc⟩ := hp h0
      cases e
      obtain ⟨v', w', hr, ho', hg, _⟩ := run_append_own (P := Try.prog) w B 41 ty 3 i0 _ 1 8 Try.underlying41 hi hz0 hz1 hz2 rfl (by decide) v l.length (l.map (Value.int .i64)) hown ⟨b, off, none⟩ m.length cap (m.map (Value.int .i64)) (by simp) (fun j u hu => by
        obtain ⟨n, hn, rfl⟩ := cellsI_get m j u hu
        rw [Addr.add_lit]
        exact hc j n hn) (fun u hu => by rw [List.mem_map] at hu; obtain ⟨n, _, rfl⟩ := hu; rfl) (by unfold maxLen; omega) (by omega) hB
      refine ⟨v', w', hr, ?_, hg⟩
      unfold OwnI
      rw [List.map_append, List.length_append]
      exact ho'
    · have hm : m = [] := List.eq_nil_of_length_eq_zero (by omega)
      subst hm
      obtain ⟨v', w', hr, ho', hg, _⟩ := run_append_own (P := Try.prog) w B 41 ty 3 i0 _ 1 8 Try.underlying41 hi hz0 hz1 hz2 rfl (by decide) v l.length (l.map (Value.int .i64)) hown a 0 cap [] rfl (fun j u hu => by simp at hu) (fun u hu => by cases hu) (by unfold maxLen; omega) (by omega) hB
      refine ⟨v', w', hr, ?_, hg⟩
      unfold OwnI
      simpa using ho'

theorem step_appI {ops : Array Oper} {o : Oper} {a : Act} {w : World} {K : Act → World → Prop} {Q : Exit → Act → World → Prop} {E : Prop}
    (hg : o.guard = none) (s x : Operand) (hop : o.op = Op.call { callee := Callee.builtin Builtin.append, args := #[s, x], argTypes := #[41, 41] })
    (B : Nat) (v vx : Value) (l m : List Int) (hs : a.eval s = v) (hx : a.eval x = vx) (hown : OwnI w B v l) (hrd : RdI w vx m) (hlen : l.length + m.length ≤ 100000000) (hB : B ≤ w.heap.size)
    (hK : ∀ v' w', OwnI w' B v' (l ++ m) → w.grownBy w' v.ownBlock → K (a.put o.dst v') w') : if Region.wanted o (yielded ops a.tmps) = true then Oper.wp Try.prog o a w K Q else E := by
  have hw : Region.wanted o (yielded ops a.tmps) = true := by simp [Region.wanted, hg]
  rw [if_pos hw]
  obtain ⟨v', w', hr, h1, h2⟩ := appI_run w B v vx l m o.type hown hrd hlen hB
  unfold Oper.wp
  simp [execOp, hop, resolve, invoke, builtin, hs, hx, hr, Result.andThen]
  exact hK v' w' h1 h2

/-- A part of a slice of ints. -/
theorem RdI_take {w : World} {b off cap : Nat} {l : List Int} (k : Nat) (hk : k ≤ l.length) (hb : b < w.heap.size) (hc : CellsI w b off l) (hlc : l.length ≤ cap) (hcap : cap ≤ 9223372036854775807) : RdI w (.slice (some ⟨b, off, none⟩) k cap) (l.take k) := by
  have hl : (l.take k).length = k := by simp; omega
  refine ⟨some ⟨b, off, none⟩, cap, by rw [hl], by omega, hcap, fun _ => ⟨b, off, rfl, hb, fun i n hn => ?_⟩⟩
  have hik : i < k := by have := (List.getElem?_eq_some_iff.1 hn).1; omega
  rw [List.getElem?_take_of_lt hik] at hn
  exact hc i n hn
theorem RdI_drop {w : World} {b off cap : Nat} {l : List Int} (k : Nat) (hk : k ≤ l.length) (hb : b < w.heap.size) (hc : CellsI w b off l) (hlc : l.length ≤ cap) (hcap : cap ≤ 9223372036854775807) : RdI w (.slice (some ⟨b, off + k, none⟩) (l.length - k) (cap - k)) (l.drop k) := by
  have hl : (l.drop k).length = l.length - k := by simp
  refine ⟨some ⟨b, off + k, none⟩, cap - k, by rw [hl], by omega, by omega, fun _ => ⟨b, off + k, rfl, hb, fun i n hn => ?_⟩⟩
  rw [List.getElem?_drop] at hn
  rw [Nat.add_assoc]
  exact hc (k + i) n hn

theorem RdI_none (w : World) (p : Option Addr) (cap : Nat) (hc : cap ≤ 9223372036854775807) : RdI w (.slice p 0 cap) [] := ⟨p, cap, rfl, by simp, hc, fun h => absurd h (by simp)⟩
theorem RdI_one {w : World} {b : Nat} {n : Int} (h : w.cell? ⟨b, 0, none⟩ = some (.int .i64 n)) : RdI w (.slice (some ⟨b, 0, none⟩) 1 1) [n] := by
  refine ⟨some ⟨b, 0, none⟩, 1, rfl, by simp, by omega, fun _ => ⟨b, 0, rfl, World.block_lt_of_cell? w _ h, fun i m hm => ?_⟩⟩
  match i, hm with
  | 0, hm => simp at hm; subst hm; exact h
  | i + 1, hm => simp at hm

/-- Where n stands in an ascending list. -/
theorem ins_sorted {l : List Int} {k : Nat} {n : Int} (hl : l.Pairwise (· < ·)) (h1 : ∀ x ∈ l.take k, x < n) (h2 : ∀ x ∈ l.drop k, n < x) : (l.take k ++ [n] ++ l.drop k).Pairwise (· < ·) ∧ ∀ m, m ∈ l.take k ++ [n] ++ l.drop k ↔ m ∈ l ∨ m = n := by
  refine ⟨?_, fun m => ?_⟩
  · rw [List.pairwise_append, List.pairwise_append]
    refine ⟨⟨hl.sublist (List.take_sublist k l), by simp, fun x hx y hy => by simp at hy; subst hy; exact h1 x hx⟩, hl.sublist (List.drop_sublist k l), fun x hx y hy => ?_⟩
    rcases List.mem_append.1 hx with hx | hx
    · have := h1 x hx; have := h2 y hy; omega
    · simp at hx; subst hx; exact h2 y hy
  · have := List.take_append_drop k l
    rw [List.mem_append, List.mem_append]
    constructor
    · rintro ((h | h) | h)
      · exact .inl (List.mem_of_mem_take h)
      · simp at h; exact .inr h
      · exact .inl (List.mem_of_mem_drop h)
    · rintro (h | h)
      · rw [← this] at h
        rcases List.mem_append.1 h with h | h
        · exact .inl (.inl h)
        · exact .inr h
      · exact .inl (.inr (by simp [h]))

def RetIns (w : World) (l : List Int) (n : Int) (e : Ending) (w' : World) : Prop :=
  ∃ v l', e = .returned v ∧ RdI w' v l' ∧ l'.Pairwise (· < ·) ∧ (∀ m, m ∈ l' ↔ m ∈ l ∨ m = n) ∧ l'.length ≤ l.length + 1 ∧ Below w.heap.size w w'

set_option maxHeartbeats 8000000 in
set_option maxRecDepth 100000 in
theorem insert_any (l : List Int) (n : Int) (v : Value) (w : World) (hr : RdI w v l) (hs : l.Pairwise (· < ·)) (hlen : l.length ≤ 10000000) :
    Calls Try.prog 79 #[v, .int .i64 n] w (RetIns w l n) := by
  have HR := Lib.hid hr
  have HS := Lib.hid hs
  clear hs
  obtain ⟨p, cap, rfl, hlc, hcap, hp⟩ := hr
  go_enter Try.func79, Try.ntmps79
  go_wp2
  go_loopw [5] (fun i wr => ∃ k : Nat, k ≤ l.length ∧ i = .int .i64 k ∧ (∀ x ∈ l.take k, x < n) ∧ wr = w) (fun i _ => l.length - (intOf i).toNat)
  case atStart => exact ⟨0, Nat.zero_le _, rfl, by simp, rfl⟩
  case round =>
    obtain ⟨k, hk, rfl, hall, rfl⟩ := hrel
    have HALL := Lib.hid hall; clear hall
    by_cases hlt : k < l.length
    · obtain ⟨b, off, rfl, hbs, hc⟩ := hp (by omega)
      obtain ⟨x, hx⟩ := getSome l k hlt
      have hc1 := hc k x hx
      have HX := Lib.hid hx
      have HC := Lib.hid hc
      clear hc hp hx
      by_cases hxn : x < n
      · go_wp2
        go_roundw
        case rel => exact ⟨k + 1, by omega, by go_num, fun y hy => by
          rw [take_snoc' l k x HX.out] at hy
          rcases List.mem_append.1 hy with hy | hy
          · exact HALL.out y hy
          · simp at hy; subst hy; exact hxn, trivial⟩
        case measure => simp [intOf]; omega
      · by_cases hxe : x = n
        · subst hxe
          have hbe : (x == x) = true := by simp
          go_wp2
          go_ret
          exact ⟨_, l, rfl, HR.out, HS.out, fun m => ⟨.inl, fun h => h.elim id fun h => by rw [h]; exact List.mem_of_getElem? HX.out⟩, by omega, Below.refl _ _⟩
        · have hbe : (x == n) = false := by simp [hxe]
          have hgt : n < x := by omega
          have h2 : ∀ y ∈ l.drop k, n < y := by
            intro y hy
            rw [drop_cons l k x HX.out] at hy
            rcases List.mem_cons.1 hy with rfl | hy
            · exact hgt
            · have hp := HS.out.sublist (List.drop_sublist k l)
              rw [drop_cons l k x HX.out] at hp
              have := (List.pairwise_cons.1 hp).1 y hy
              omega
          have HI := Lib.hid (ins_sorted HS.out HALL.out h2)
          clear hxe h2
          have HRT := Lib.hid (fun (W : World) (hW : Below wr.heap.size wr W) => (RdI_take k hk hbs HC.out hlc hcap).below hW)
          have HRD := Lib.hid (fun (W : World) (hW : Below wr.heap.size wr W) => (RdI_drop k hk hbs HC.out hlc hcap).below hW)
          have hkc : k ≤ cap := by omega
          have hkn : ¬ cap = k := by omega
          go_wp2
          clear hbe hgt hc1
          go_region_law (first
            | (refine step_appI (o := ⟨some 36, _, _, _, _, _⟩) rfl (.const (.slice none 0 0)) (.tmp 35) rfl wr.heap.size (.slice none 0 0) (.slice (some ⟨b, off, none⟩) k cap) [] (l.take k) (by simp [Act.eval]) (by simp [Act.eval, Act.put]) (OwnI.nil _ _) (HRT.out _ (by (repeat' (first | exact Below.refl _ _ | exact Nat.le_refl _ | (refine Below.alloc ?_ ?_ _) | (refine bdrewN ?_ _) | (refine Below.drew ?_) | (simp; done) | (simp; omega))))) (by simp; omega) (by simp) ?_; intro v36 w36 ho36 hg36; have hb36 := Lib.hid (Below.grown (B := wr.heap.size) (a := wr) (by (repeat' (first | exact Below.refl _ _ | exact Nat.le_refl _ | (refine Below.alloc ?_ ?_ _) | (refine bdrewN ?_ _) | (refine Below.drew ?_) | (simp; done) | (simp; omega)))) hg36 (by simp) (by simp [Value.ownBlock])))
            | (refine step_appI (o := ⟨some 39, _, _, _, _, _⟩) rfl (.tmp 36) (.tmp 38) rfl wr.heap.size v36 (.slice (some ⟨w36.heap.size, 0, none⟩) 1 1) ([] ++ l.take k) [n] (by simp [Act.eval]) (by simp [Act.eval]) (by refine ho36.below ?_; (repeat' (first | exact Below.refl _ _ | exact Nat.le_refl _ | (refine Below.alloc ?_ ?_ _) | (refine bdrewN ?_ _) | (refine Below.drew ?_) | (simp; done) | (simp; omega)))) (by exact RdI_one (cell_new (by simp) rfl)) (by simp; omega) (by have := hb36.out.size; simp; omega) ?_; intro v39 w39 ho39 hg39; have hb39 := Lib.hid (Below.grown (B := wr.heap.size) (a := wr) (by refine hb36.out.trans (Below.mono (B := w36.heap.size) ?_ hb36.out.size); (repeat' (first | exact Below.refl _ _ | exact Nat.le_refl _ | (refine Below.alloc ?_ ?_ _) | (refine bdrewN ?_ _) | (refine Below.drew ?_) | (simp; done) | (simp; omega)))) hg39 (by have := hb36.out.size; simp; omega) (fun j hj => (ho36.lt j hj).1)))
            | (refine step_appI (o := ⟨some 39, _, _, _, _, _⟩) rfl (.tmp 36) (.tmp 38) rfl wr.heap.size v36 (.slice (some ⟨wr.heap.size, 0, none⟩) 1 1) ([] ++ l.take k) [n] (by simp [Act.eval]) (by simp [Act.eval]) (by exact ho36) (by exact RdI_one (hg36.cell (cell_new (by simp) rfl) (by simp [Value.ownBlock]))) (by simp; omega) (by have := hb36.out.size; simp; omega) ?_; intro v39 w39 ho39 hg39; have hb39 := Lib.hid (Below.grown (B := wr.heap.size) (a := wr) (by exact hb36.out) hg39 (by have := hb36.out.size; simp; omega) (fun j hj => (ho36.lt j hj).1)))
            | (refine step_appI (o := ⟨some 43, _, _, _, _, _⟩) rfl (.tmp 39) (.tmp 42) rfl wr.heap.size v39 (.slice (some ⟨b, off + k, none⟩) (l.length - k) (cap - k)) ([] ++ l.take k ++ [n]) (l.drop k) (by simp [Act.eval]) (by simp [Act.eval]) ho39 (HRD.out _ hb39.out) (by simp; omega) hb39.out.size ?_; intro v43 w43 ho43 hg43; have hb43 := Lib.hid (Below.grown (B := wr.heap.size) (a := wr) hb39.out hg43 hb39.out.size (fun j hj => (ho39.lt j hj).1))))
          all_goals
            go_wp2
            go_ret
            exact ⟨_, _, rfl, ho43.rd, by first | (simp; done) | (simpa using HI.out.1), by first | (simp; done) | (simpa using HI.out.2), by simp; omega, hb43.out⟩
    · by_cases hl0 : 0 < l.length
      · have hkl : k = l.length := by omega
        subst hkl
        have hi := ins_sorted HS.out HALL.out (n := n) (by simp)
        simp only [List.take_length, List.drop_length, List.append_nil] at hi
        have HI := Lib.hid hi
        clear hi
        obtain ⟨b, off, rfl, hbs, hc⟩ := hp hl0
        clear hp
        by_cases hce : cap = l.length
        · subst hce
          have HRT := Lib.hid (fun (W : World) (hW : Below wr.heap.size wr W) => HR.out.below hW)
          have HRD := Lib.hid (fun (W : World) (_ : Below wr.heap.size wr W) => RdI_none W (some ⟨b, off, none⟩) 0 (by omega))
          clear hc
          go_wp2
          go_region_law (first
            | (refine step_appI (o := ⟨some 36, _, _, _, _, _⟩) rfl (.const (.slice none 0 0)) (.tmp 35) rfl wr.heap.size (.slice none 0 0) (.slice (some ⟨b, off, none⟩) l.length l.length) [] (l) (by simp [Act.eval]) (by simp [Act.eval, Act.put]) (OwnI.nil _ _) (HRT.out _ (by (repeat' (first | exact Below.refl _ _ | exact Nat.le_refl _ | (refine Below.alloc ?_ ?_ _) | (refine bdrewN ?_ _) | (refine Below.drew ?_) | (simp; done) | (simp; omega))))) (by simp; try omega) (by simp) ?_; intro v36 w36 ho36 hg36; have hb36 := Lib.hid (Below.grown (B := wr.heap.size) (a := wr) (by (repeat' (first | exact Below.refl _ _ | exact Nat.le_refl _ | (refine Below.alloc ?_ ?_ _) | (refine bdrewN ?_ _) | (refine Below.drew ?_) | (simp; done) | (simp; omega)))) hg36 (by simp) (by simp [Value.ownBlock])))
            | (refine step_appI (o := ⟨some 39, _, _, _, _, _⟩) rfl (.tmp 36) (.tmp 38) rfl wr.heap.size v36 (.slice (some ⟨w36.heap.size, 0, none⟩) 1 1) ([] ++ l) [n] (by simp [Act.eval]) (by simp [Act.eval]) (by refine ho36.below ?_; (repeat' (first | exact Below.refl _ _ | exact Nat.le_refl _ | (refine Below.alloc ?_ ?_ _) | (refine bdrewN ?_ _) | (refine Below.drew ?_) | (simp; done) | (simp; omega)))) (by exact RdI_one (cell_new (by simp) rfl)) (by simp; try omega) (by have := hb36.out.size; simp; omega) ?_; intro v39 w39 ho39 hg39; have hb39 := Lib.hid (Below.grown (B := wr.heap.size) (a := wr) (by refine hb36.out.trans (Below.mono (B := w36.heap.size) ?_ hb36.out.size); (repeat' (first | exact Below.refl _ _ | exact Nat.le_refl _ | (refine Below.alloc ?_ ?_ _) | (refine bdrewN ?_ _) | (refine Below.drew ?_) | (simp; done) | (simp; omega)))) hg39 (by have := hb36.out.size; simp; omega) (fun j hj => (ho36.lt j hj).1)))
            | (refine step_appI (o := ⟨some 39, _, _, _, _, _⟩) rfl (.tmp 36) (.tmp 38) rfl wr.heap.size v36 (.slice (some ⟨wr.heap.size, 0, none⟩) 1 1) ([] ++ l) [n] (by simp [Act.eval]) (by simp [Act.eval]) (by exact ho36) (by exact RdI_one (hg36.cell (cell_new (by simp) rfl) (by simp [Value.ownBlock]))) (by simp; try omega) (by have := hb36.out.size; simp; omega) ?_; intro v39 w39 ho39 hg39; have hb39 := Lib.hid (Below.grown (B := wr.heap.size) (a := wr) (by exact hb36.out) hg39 (by have := hb36.out.size; simp; omega) (fun j hj => (ho36.lt j hj).1)))
            | (refine step_appI (o := ⟨some 43, _, _, _, _, _⟩) rfl (.tmp 39) (.tmp 42) rfl wr.heap.size v39 (.slice (some ⟨b, off, none⟩) 0 0) ([] ++ l ++ [n]) ([]) (by simp [Act.eval]) (by simp [Act.eval]) ho39 (HRD.out _ hb39.out) (by simp; try omega) hb39.out.size ?_; intro v43 w43 ho43 hg43; have hb43 := Lib.hid (Below.grown (B := wr.heap.size) (a := wr) hb39.out hg43 hb39.out.size (fun j hj => (ho39.lt j hj).1))))
          all_goals
            go_wp2
            go_ret
            exact ⟨_, _, rfl, ho43.rd, by first | (simp; done) | (simpa using HI.out.1), by first | (simp; done) | (simpa using HI.out.2), by simp; try omega, hb43.out⟩
        · have HRT := Lib.hid (fun (W : World) (hW : Below wr.heap.size wr W) => HR.out.below hW)
          have HRD := Lib.hid (fun (W : World) (_ : Below wr.heap.size wr W) => RdI_none W (some ⟨b, off + l.length, none⟩) (cap - l.length) (by omega))
          clear hc
          go_wp2
          go_region_law (first
            | (refine step_appI (o := ⟨some 36, _, _, _, _, _⟩) rfl (.const (.slice none 0 0)) (.tmp 35) rfl wr.heap.size (.slice none 0 0) (.slice (some ⟨b, off, none⟩) l.length cap) [] (l) (by simp [Act.eval]) (by simp [Act.eval, Act.put]) (OwnI.nil _ _) (HRT.out _ (by (repeat' (first | exact Below.refl _ _ | exact Nat.le_refl _ | (refine Below.alloc ?_ ?_ _) | (refine bdrewN ?_ _) | (refine Below.drew ?_) | (simp; done) | (simp; omega))))) (by simp; try omega) (by simp) ?_; intro v36 w36 ho36 hg36; have hb36 := Lib.hid (Below.grown (B := wr.heap.size) (a := wr) (by (repeat' (first | exact Below.refl _ _ | exact Nat.le_refl _ | (refine Below.alloc ?_ ?_ _) | (refine bdrewN ?_ _) | (refine Below.drew ?_) | (simp; done) | (simp; omega)))) hg36 (by simp) (by simp [Value.ownBlock])))
            | (refine step_appI (o := ⟨some 39, _, _, _, _, _⟩) rfl (.tmp 36) (.tmp 38) rfl wr.heap.size v36 (.slice (some ⟨w36.heap.size, 0, none⟩) 1 1) ([] ++ l) [n] (by simp [Act.eval]) (by simp [Act.eval]) (by refine ho36.below ?_; (repeat' (first | exact Below.refl _ _ | exact Nat.le_refl _ | (refine Below.alloc ?_ ?_ _) | (refine bdrewN ?_ _) | (refine Below.drew ?_) | (simp; done) | (simp; omega)))) (by exact RdI_one (cell_new (by simp) rfl)) (by simp; try omega) (by have := hb36.out.size; simp; omega) ?_; intro v39 w39 ho39 hg39; have hb39 := Lib.hid (Below.grown (B := wr.heap.size) (a := wr) (by refine hb36.out.trans (Below.mono (B := w36.heap.size) ?_ hb36.out.size); (repeat' (first | exact Below.refl _ _ | exact Nat.le_refl _ | (refine Below.alloc ?_ ?_ _) | (refine bdrewN ?_ _) | (refine Below.drew ?_) | (simp; done) | (simp; omega)))) hg39 (by have := hb36.out.size; simp; omega) (fun j hj => (ho36.lt j hj).1)))
            | (refine step_appI (o := ⟨some 39, _, _, _, _, _⟩) rfl (.tmp 36) (.tmp 38) rfl wr.heap.size v36 (.slice (some ⟨wr.heap.size, 0, none⟩) 1 1) ([] ++ l) [n] (by simp [Act.eval]) (by simp [Act.eval]) (by exact ho36) (by exact RdI_one (hg36.cell (cell_new (by simp) rfl) (by simp [Value.ownBlock]))) (by simp; try omega) (by have := hb36.out.size; simp; omega) ?_; intro v39 w39 ho39 hg39; have hb39 := Lib.hid (Below.grown (B := wr.heap.size) (a := wr) (by exact hb36.out) hg39 (by have := hb36.out.size; simp; omega) (fun j hj => (ho36.lt j hj).1)))
            | (refine step_appI (o := ⟨some 43, _, _, _, _, _⟩) rfl (.tmp 39) (.tmp 42) rfl wr.heap.size v39 (.slice (some ⟨b, off + l.length, none⟩) 0 (cap - l.length)) ([] ++ l ++ [n]) ([]) (by simp [Act.eval]) (by simp [Act.eval]) ho39 (HRD.out _ hb39.out) (by simp; try omega) hb39.out.size ?_; intro v43 w43 ho43 hg43; have hb43 := Lib.hid (Below.grown (B := wr.heap.size) (a := wr) hb39.out hg43 hb39.out.size (fun j hj => (ho39.lt j hj).1))))
          all_goals
            go_wp2
            go_ret
            exact ⟨_, _, rfl, ho43.rd, by first | (simp; done) | (simpa using HI.out.1), by first | (simp; done) | (simpa using HI.out.2), by simp; try omega, hb43.out⟩
      · have hl : l = [] := List.eq_nil_of_length_eq_zero (by omega)
        subst hl
        have hk0 : k = 0 := by simpa using hk
        subst hk0
        have HI := Lib.hid (show ([n] : List Int).Pairwise (· < ·) ∧ ∀ m, m ∈ [n] ↔ m ∈ ([] : List Int) ∨ m = n from ⟨by simp, by simp⟩)
        cases p with
        | none =>
          have HRT := Lib.hid (fun (W : World) (_ : Below wr.heap.size wr W) => RdI_none W none cap hcap)
          have HRD := HRT
          go_wp2
          go_region_law (first
            | (refine step_appI (o := ⟨some 36, _, _, _, _, _⟩) rfl (.const (.slice none 0 0)) (.tmp 35) rfl wr.heap.size (.slice none 0 0) (.slice none 0 cap) [] ([]) (by simp [Act.eval]) (by simp [Act.eval, Act.put]) (OwnI.nil _ _) (HRT.out _ (by (repeat' (first | exact Below.refl _ _ | exact Nat.le_refl _ | (refine Below.alloc ?_ ?_ _) | (refine bdrewN ?_ _) | (refine Below.drew ?_) | (simp; done) | (simp; omega))))) (by simp; try omega) (by simp) ?_; intro v36 w36 ho36 hg36; have hb36 := Lib.hid (Below.grown (B := wr.heap.size) (a := wr) (by (repeat' (first | exact Below.refl _ _ | exact Nat.le_refl _ | (refine Below.alloc ?_ ?_ _) | (refine bdrewN ?_ _) | (refine Below.drew ?_) | (simp; done) | (simp; omega)))) hg36 (by simp) (by simp [Value.ownBlock])))
            | (refine step_appI (o := ⟨some 39, _, _, _, _, _⟩) rfl (.tmp 36) (.tmp 38) rfl wr.heap.size v36 (.slice (some ⟨w36.heap.size, 0, none⟩) 1 1) ([] ++ []) [n] (by simp [Act.eval]) (by simp [Act.eval]) (by refine ho36.below ?_; (repeat' (first | exact Below.refl _ _ | exact Nat.le_refl _ | (refine Below.alloc ?_ ?_ _) | (refine bdrewN ?_ _) | (refine Below.drew ?_) | (simp; done) | (simp; omega)))) (by exact RdI_one (cell_new (by simp) rfl)) (by simp; try omega) (by have := hb36.out.size; simp; omega) ?_; intro v39 w39 ho39 hg39; have hb39 := Lib.hid (Below.grown (B := wr.heap.size) (a := wr) (by refine hb36.out.trans (Below.mono (B := w36.heap.size) ?_ hb36.out.size); (repeat' (first | exact Below.refl _ _ | exact Nat.le_refl _ | (refine Below.alloc ?_ ?_ _) | (refine bdrewN ?_ _) | (refine Below.drew ?_) | (simp; done) | (simp; omega)))) hg39 (by have := hb36.out.size; simp; omega) (fun j hj => (ho36.lt j hj).1)))
            | (refine step_appI (o := ⟨some 39, _, _, _, _, _⟩) rfl (.tmp 36) (.tmp 38) rfl wr.heap.size v36 (.slice (some ⟨wr.heap.size, 0, none⟩) 1 1) ([] ++ []) [n] (by simp [Act.eval]) (by simp [Act.eval]) (by exact ho36) (by exact RdI_one (hg36.cell (cell_new (by simp) rfl) (by simp [Value.ownBlock]))) (by simp; try omega) (by have := hb36.out.size; simp; omega) ?_; intro v39 w39 ho39 hg39; have hb39 := Lib.hid (Below.grown (B := wr.heap.size) (a := wr) (by exact hb36.out) hg39 (by have := hb36.out.size; simp; omega) (fun j hj => (ho36.lt j hj).1)))
            | (refine step_appI (o := ⟨some 43, _, _, _, _, _⟩) rfl (.tmp 39) (.tmp 42) rfl wr.heap.size v39 (.slice none 0 cap) ([] ++ [] ++ [n]) ([]) (by simp [Act.eval]) (by simp [Act.eval]) ho39 (HRD.out _ hb39.out) (by simp; try omega) hb39.out.size ?_; intro v43 w43 ho43 hg43; have hb43 := Lib.hid (Below.grown (B := wr.heap.size) (a := wr) hb39.out hg43 hb39.out.size (fun j hj => (ho39.lt j hj).1))))
          all_goals
            go_wp2
            go_ret
            exact ⟨_, _, rfl, ho43.rd, by first | (simp; done) | (simpa using HI.out.1), by first | (simp; done) | (simpa using HI.out.2), by simp; try omega, hb43.out⟩
        | some a =>
          have HRT := Lib.hid (fun (W : World) (_ : Below wr.heap.size wr W) => RdI_none W (some a) cap hcap)
          have HRD := HRT
          go_wp2
          go_region_law (first
            | (refine step_appI (o := ⟨some 36, _, _, _, _, _⟩) rfl (.const (.slice none 0 0)) (.tmp 35) rfl wr.heap.size (.slice none 0 0) (.slice (some a) 0 cap) [] ([]) (by simp [Act.eval]) (by simp [Act.eval, Act.put]) (OwnI.nil _ _) (HRT.out _ (by (repeat' (first | exact Below.refl _ _ | exact Nat.le_refl _ | (refine Below.alloc ?_ ?_ _) | (refine bdrewN ?_ _) | (refine Below.drew ?_) | (simp; done) | (simp; omega))))) (by simp; try omega) (by simp) ?_; intro v36 w36 ho36 hg36; have hb36 := Lib.hid (Below.grown (B := wr.heap.size) (a := wr) (by (repeat' (first | exact Below.refl _ _ | exact Nat.le_refl _ | (refine Below.alloc ?_ ?_ _) | (refine bdrewN ?_ _) | (refine Below.drew ?_) | (simp; done) | (simp; omega)))) hg36 (by simp) (by simp [Value.ownBlock])))
            | (refine step_appI (o := ⟨some 39, _, _, _, _, _⟩) rfl (.tmp 36) (.tmp 38) rfl wr.heap.size v36 (.slice (some ⟨w36.heap.size, 0, none⟩) 1 1) ([] ++ []) [n] (by simp [Act.eval]) (by simp [Act.eval]) (by refine ho36.below ?_; (repeat' (first | exact Below.refl _ _ | exact Nat.le_refl _ | (refine Below.alloc ?_ ?_ _) | (refine bdrewN ?_ _) | (refine Below.drew ?_) | (simp; done) | (simp; omega)))) (by exact RdI_one (cell_new (by simp) rfl)) (by simp; try omega) (by have := hb36.out.size; simp; omega) ?_; intro v39 w39 ho39 hg39; have hb39 := Lib.hid (Below.grown (B := wr.heap.size) (a := wr) (by refine hb36.out.trans (Below.mono (B := w36.heap.size) ?_ hb36.out.size); (repeat' (first | exact Below.refl _ _ | exact Nat.le_refl _ | (refine Below.alloc ?_ ?_ _) | (refine bdrewN ?_ _) | (refine Below.drew ?_) | (simp; done) | (simp; omega)))) hg39 (by have := hb36.out.size; simp; omega) (fun j hj => (ho36.lt j hj).1)))
            | (refine step_appI (o := ⟨some 39, _, _, _, _, _⟩) rfl (.tmp 36) (.tmp 38) rfl wr.heap.size v36 (.slice (some ⟨wr.heap.size, 0, none⟩) 1 1) ([] ++ []) [n] (by simp [Act.eval]) (by simp [Act.eval]) (by exact ho36) (by exact RdI_one (hg36.cell (cell_new (by simp) rfl) (by simp [Value.ownBlock]))) (by simp; try omega) (by have := hb36.out.size; simp; omega) ?_; intro v39 w39 ho39 hg39; have hb39 := Lib.hid (Below.grown (B := wr.heap.size) (a := wr) (by exact hb36.out) hg39 (by have := hb36.out.size; simp; omega) (fun j hj => (ho36.lt j hj).1)))
            | (refine step_appI (o := ⟨some 43, _, _, _, _, _⟩) rfl (.tmp 39) (.tmp 42) rfl wr.heap.size v39 (.slice (some a) 0 cap) ([] ++ [] ++ [n]) ([]) (by simp [Act.eval]) (by simp [Act.eval]) ho39 (HRD.out _ hb39.out) (by simp; try omega) hb39.out.size ?_; intro v43 w43 ho43 hg43; have hb43 := Lib.hid (Below.grown (B := wr.heap.size) (a := wr) hb39.out hg43 hb39.out.size (fun j hj => (ho39.lt j hj).1))))
          all_goals
            go_wp2
            go_ret
            exact ⟨_, _, rfl, ho43.rd, by first | (simp; done) | (simpa using HI.out.1), by first | (simp; done) | (simpa using HI.out.2), by simp; try omega, hb43.out⟩

end Go.Proofs.Yteengifhndmjeaa
