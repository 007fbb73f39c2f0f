/- areas.Extents, Piece.Has. -/
import Derived.Test.YteengifhndmjeaaMkQ
import Derived.IntWalk
namespace Go.Proofs.Yteengifhndmjeaa
open Go.RowKit

/-- How many extents an area has. -/
def extN (kind len : Int) (areas : Nat) : Int := if kind = 2 ∧ 0 < areas then len / areas else len

set_option maxHeartbeats 1000000 in
theorem Extents_any (st len kd ch dev mode dn : Int) (ap sp : Option Addr) (al ac sl sc : Nat) (log pool : ByteArray) (w : World) (h0 : 0 ≤ len) (h1 : len ≤ 9223372036854775807) (ha : al ≤ 1000000) :
    Calls Try.prog 78 #[.agg #[.int .i64 st, .int .i64 len, .int .i64 kd, .slice ap al ac, .int .i64 ch, .slice sp sl sc, .string log, .string pool, .int .i64 dev, .int .i64 mode, .int .i64 dn]] w fun e w' => e = .returned (.int .i64 (extN kd len al)) ∧ Below w.heap.size w w' := by
  have hb := below_alloc w (.cells #[.int .i64 st, .int .i64 len, .int .i64 kd, .slice ap al ac, .int .i64 ch, .slice sp sl sc, .string log, .string pool, .int .i64 dev, .int .i64 mode, .int .i64 dn] 101)
  have HB := Lib.hid hb; clear hb
  go_enter Try.func78, Try.ntmps78
  by_cases hk : kd = 2
  · subst hk
    by_cases hz : al = 0
    · subst hz
      go_wp2
      go_ret
      exact ⟨by simp [extN], HB.out⟩
    · have hd : decide ((0 : Int) < (al : Int)) = true := by simp; omega
      have hn : ¬ (al : Int) = 0 := by omega
      have hn1 : ((al : Int) == 0) = false := by simpa using hz
      have hq0 : 0 ≤ len / (al : Int) := Int.ediv_nonneg h0 (by omega)
      have hq1 : len / (al : Int) ≤ len := Int.ediv_le_self _ h0
      have hq2 : len.tdiv (al : Int) = len / (al : Int) := Int.tdiv_eq_ediv_of_nonneg h0
      have hq3 : IntKind.i64.wrap (len / (al : Int)) = len / (al : Int) := IntWalk.i64_in _ (by omega)
      go_wp2
      go_ret
      exact ⟨by simp [extN, show 0 < al by omega], HB.out⟩
  · have hk1 : (kd == 2) = false := by simpa using hk
    go_wp2
    go_ret
    exact ⟨by simp [extN, hk], HB.out⟩

set_option maxHeartbeats 1000000 in
theorem PieceHas_any (vol disk : ByteArray) (s l x : Int) (w : World) (hs0 : 0 ≤ s) (hs1 : s ≤ 1000000) (hl0 : 0 ≤ l) (hl1 : l ≤ 1000000) (hx0 : 0 ≤ x) (hx1 : x ≤ 1000000) :
    Calls Try.prog 63 #[.agg #[.string vol, .string disk, .int .i64 s, .int .i64 l], .int .i64 x] w fun e w' => e = .returned (.bool (decide (s ≤ x ∧ x < s + l))) ∧ Below w.heap.size w w' := by
  have hb := below_alloc w (.cells #[.string vol, .string disk, .int .i64 s, .int .i64 l] 96)
  have HB := Lib.hid hb; clear hb
  have hw1 : IntKind.u64.wrap x = x := IntWalk.u64_in _ (by omega)
  have hw2 : IntKind.u64.wrap s = s := IntWalk.u64_in _ (by omega)
  have hw3 : IntKind.u64.wrap l = l := IntWalk.u64_in _ (by omega)
  go_enter Try.func63, Try.ntmps63
  by_cases hl : 0 < l
  · by_cases hsx : s ≤ x
    · have hw4 : IntKind.u64.wrap (x - s) = x - s := IntWalk.u64_in _ (by omega)
      go_wp2
      go_ret
      exact ⟨congrArg (fun b => Ending.returned (Value.bool b)) (decide_eq_decide.2 ⟨fun q => ⟨hsx, by omega⟩, fun q => by omega⟩), HB.out⟩
    · go_wp2
      go_ret
      exact ⟨congrArg (fun b => Ending.returned (Value.bool b)) (by rw [← Bool.decide_and]; exact (decide_eq_false (by omega)).symm), HB.out⟩
  · go_wp2
    go_ret
    exact ⟨congrArg (fun b => Ending.returned (Value.bool b)) (by rw [← Bool.decide_and]; exact (decide_eq_false (by omega)).symm), HB.out⟩

end Go.Proofs.Yteengifhndmjeaa
