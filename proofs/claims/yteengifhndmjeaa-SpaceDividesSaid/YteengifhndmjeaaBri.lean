/- Rows of ranges and of ints that a call owns, in the words of the library's sort. -/
import Derived.Test.YteengifhndmjeaaBase
import Derived.Shelf.SlSortCmp.WholeK
import Derived.Lib.OwnBridge
namespace Go.Proofs.Yteengifhndmjeaa
open Go.RowKit Go.Sort

/-- A range's two cells. -/
def encR (x : Int × Int) : List Value := [.int .i64 x.1, .int .i64 x.2]

theorem cellsR_flat (l : List (Int × Int)) : flatK encR 2 l.toArray = (cellsR l).toArray := by
  apply Array.ext_getElem?
  intro t
  by_cases ht : t < l.length * 2
  · have h1 : (flatK encR 2 l.toArray)[t]? = some ((encR l.toArray[t / 2]!)[t % 2]!) := by
      rw [Array.getElem?_eq_getElem (by simpa using ht)]
      have := get_flatK encR 2 l.toArray t (by simpa using ht)
      rw [getElem!_pos _ t (by simpa using ht)] at this
      rw [this]
    rw [h1]
    obtain ⟨x, hx⟩ := getSome l (t / 2) (by omega)
    have hg := cellsR_get l (t / 2) x hx
    have hx' : l.toArray[t / 2]! = x := by simp [hx]
    rw [hx']
    rcases Nat.mod_two_eq_zero_or_one t with hm | hm
    · rw [hm]
      have : t / 2 * 2 = t := by omega
      rw [this] at hg
      simpa [encR] using hg.1.symm
    · rw [hm]
      have : t / 2 * 2 + 1 = t := by omega
      rw [this] at hg
      simpa [encR] using hg.2.symm
  · rw [Array.getElem?_eq_none (by simpa using ht), Array.getElem?_eq_none (by simp [cellsR_length]; omega)]

theorem OwnR.holds {w : World} {B : Nat} {v : Value} {l : List (Int × Int)} (h : OwnR w B v l) (hne : 0 < l.length) :
    ∃ g cap, v = .slice (some ⟨g, 0, none⟩) l.length cap ∧ B ≤ g ∧ g < w.heap.size ∧ l.length ≤ cap ∧ HoldsK encR 2 w g 0 l.toArray := by
  obtain ⟨h1, h2⟩ := h
  rcases h2 with ⟨_, hn⟩ | ⟨g, cap, cur, rfl, hb, hg, hnc, hcm, hcs, ht⟩
  · omega
  · refine ⟨g, cap, rfl, hb, (Array.getElem?_eq_some_iff.1 hg).1, hnc, ?_⟩
    unfold HoldsK
    rw [cellsR_flat]
    intro j hj
    have hj' : j < l.length * 2 := by simpa [cellsR_length] using hj
    refine ⟨?_, by simp [World.frozen?, hg]⟩
    have e1 : (cur.toList.take (l.length * 2))[j]? = (cellsR l)[j]? := by rw [ht]
    rw [List.getElem?_take, if_pos hj', Array.getElem?_toList] at e1
    simp only [World.cell?, hg, Nat.zero_add]
    simp only [Option.isSome_none, Bool.false_eq_true, if_false]
    rw [e1, List.getElem?_eq_getElem (by simpa using hj)]
    simp [getElem!_pos, show j < (cellsR l).length by simpa using hj]

theorem OwnR.sorted {w : World} {B g cap n : Nat} {l s : List (Int × Int)} {os : Array Obj} (h : OwnR w B (.slice (some ⟨g, 0, none⟩) l.length cap) l) (hs : s.length = l.length) :
    OwnR (sortWorldK encR 2 w g 0 n s.toArray os) B (.slice (some ⟨g, 0, none⟩) l.length cap) s ∧ Below B w (sortWorldK encR 2 w g 0 n s.toArray os) := by
  unfold sortWorldK putRowK
  rw [cellsR_flat]
  rcases h.2 with ⟨e0, _⟩ | ⟨g', cap', cur, e0, hb, hg, hn, hm, hcs, ht⟩
  · cases e0
  · injection e0 with e1 _ e3
    injection e1 with e1
    injection e1 with e1
    subst e1; subst e3
    have hlt : g < w.heap.size := (Array.getElem?_eq_some_iff.1 hg).1
    refine ⟨⟨by rw [cellsR_length], .inr ⟨g, cap, putCells id 0 (cellsR s).toArray cur, by rw [hs], hb, ?_, by omega, hm, by simpa [putCells] using hcs, ?_⟩⟩, ?_⟩
    · rw [heap_grow_old _ _ (by simpa using hlt)]
      simp [putRow, mapBlock, Sort.ahead, Array.getElem?_modify, hg, onCells]
    · have hc2 := cellsR_length s
      apply List.ext_getElem?
      intro j
      rw [List.getElem?_take, Array.getElem?_toList]
      by_cases hj : j < s.length * 2
      · have hjc : j < cur.size := by rw [hcs]; omega
        simp only [if_pos hj, putCells, Array.getElem?_mapIdx, Array.getElem?_eq_getElem hjc, Option.map_some]
        rw [if_pos (by simp; omega), List.getElem?_eq_getElem (by omega)]
        simp [getElem!_pos, show j < (cellsR s).length by omega]
      · simp only [if_neg hj]
        rw [List.getElem?_eq_none (by omega)]
    · refine ⟨rfl, rfl, rfl, by simp, fun k hk => ?_⟩
      rw [heap_grow_old _ _ (by simp; omega)]
      simp [putRow, mapBlock, Sort.ahead, Array.getElem?_modify, show g ≠ k by omega]

theorem OwnI.sorted {w : World} {B g cap n : Nat} {l s : List Int} {os : Array Obj} (h : OwnI w B (.slice (some ⟨g, 0, none⟩) l.length cap) l) (hs : s.length = l.length) :
    OwnI (grow (putRow (Value.int .i64) (Sort.ahead w n) g 0 s.toArray) os) B (.slice (some ⟨g, 0, none⟩) l.length cap) s ∧ Below B w (grow (putRow (Value.int .i64) (Sort.ahead w n) g 0 s.toArray) os) := by
  rcases h.2 with ⟨e0, _⟩ | ⟨g', cap', cur, e0, hb, hg, hn, hm, hcs, ht⟩
  · cases e0
  · injection e0 with e1 _ e3
    injection e1 with e1
    injection e1 with e1
    subst e1; subst e3
    have hlt : g < w.heap.size := (Array.getElem?_eq_some_iff.1 hg).1
    refine ⟨⟨by simp, .inr ⟨g, cap, putCells (Value.int .i64) 0 s.toArray cur, by rw [hs], hb, ?_, by omega, hm, by simpa [putCells] using hcs, ?_⟩⟩, ?_⟩
    · rw [heap_grow_old _ _ (by simpa using hlt)]
      simp [putRow, mapBlock, Sort.ahead, Array.getElem?_modify, hg, onCells]
    · apply List.ext_getElem?
      intro j
      rw [List.getElem?_take, Array.getElem?_toList, List.getElem?_map]
      by_cases hj : j < s.length * 1
      · have hjc : j < cur.size := by omega
        simp only [if_pos hj, putCells, Array.getElem?_mapIdx, Array.getElem?_eq_getElem hjc, Option.map_some]
        rw [if_pos (by simp; omega), List.getElem?_eq_getElem (by omega)]
        simp [getElem!_pos, show j < s.length by omega]
      · simp only [if_neg hj]
        rw [List.getElem?_eq_none (by omega)]
        rfl
    · refine ⟨rfl, rfl, rfl, by simp, fun k hk => ?_⟩
      rw [heap_grow_old _ _ (by simp; omega)]
      simp [putRow, mapBlock, Sort.ahead, Array.getElem?_modify, show g ≠ k by omega]

theorem OwnI.holds {w : World} {B : Nat} {v : Value} {l : List Int} (h : OwnI w B v l) (hne : 0 < l.length) :
    ∃ g cap, v = .slice (some ⟨g, 0, none⟩) l.length cap ∧ B ≤ g ∧ g < w.heap.size ∧ l.length ≤ cap ∧ cap ≤ maxLen ∧ Holds (Value.int .i64) w g 0 l.toArray := by
  have hv : v ≠ .slice none 0 0 := by
    rintro rfl
    rcases h.2 with ⟨_, hn⟩ | ⟨g, cap, cur, e, _⟩
    · omega
    · cases e
  obtain ⟨g, cap, e, hb, hg, hn, hm, _, hH⟩ := Lib.holds_of_ownsRow h hv
  exact ⟨g, cap, e, hb, hg, hn, hm, hH⟩

theorem perm_sorted (l : List (Int × Int)) (d : Array (Int × Int)) (hp : PermIn 0 l.toArray.size l.toArray d) (hs : SortedIn (ltOf fun x y : Int × Int => Lib.compareInt x.1 y.1) 0 l.toArray.size d) :
    d.toList.Perm l ∧ d.toList.length = l.length ∧ d.toList.Pairwise fun p q => p.1 ≤ q.1 := by
  obtain ⟨h1, _, h3⟩ := hp
  have hd : d.size = l.length := by simpa using h1
  have e1 : (d.extract 0 l.toArray.size).toList = d.toList := by rw [show l.toArray.size = d.size from by simpa using hd.symm]; simp
  have e2 : (l.toArray.extract 0 l.toArray.size).toList = l := by simp
  rw [e1, e2] at h3
  refine ⟨h3, by simpa using hd, ?_⟩
  rw [List.pairwise_iff_getElem]
  intro i j hi hj hij
  have h := hs i j (Nat.zero_le _) hij (by simp at hj ⊢; omega)
  simp at hi hj
  rw [getElem!_pos d i hi, getElem!_pos d j hj] at h
  simp only [Array.getElem_toList]
  generalize d[i] = p at *
  generalize d[j] = q at *
  unfold ltOf Lib.compareInt at h
  by_cases hlt : q.1 < p.1
  · simp [hlt] at h
  · omega

end Go.Proofs.Yteengifhndmjeaa
