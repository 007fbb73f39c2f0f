/- Contracts: Union, Minus, Meet, Equal; awake. -/
import Derived.Test.YteengifhndmjeaaRanF
import Derived.Shelf.SlicesQ.Equal
namespace Go.Proofs.Yteengifhndmjeaa
open Go.RowKit

def cU (x y : Bool) : Bool := x || y
def cM (x y : Bool) : Bool := x && !y
def cI (x y : Bool) : Bool := x && y

theorem union1 (b1 b2 : Bool) (w : World) : Calls Try.prog 41 #[.bool b1, .bool b2] w fun e w' => e = .returned (.bool (cU b1 b2)) ∧ w' = w := by
  cases b1 <;> cases b2 <;> (go_enter Try.func41, Try.ntmps41; go_wp2; go_ret; exact ⟨rfl, rfl⟩)
theorem minus1 (b1 b2 : Bool) (w : World) : Calls Try.prog 42 #[.bool b1, .bool b2] w fun e w' => e = .returned (.bool (cM b1 b2)) ∧ w' = w := by
  cases b1 <;> cases b2 <;> (go_enter Try.func42, Try.ntmps42; go_wp2; go_ret; exact ⟨rfl, rfl⟩)
theorem meet1 (b1 b2 : Bool) (w : World) : Calls Try.prog 43 #[.bool b1, .bool b2] w fun e w' => e = .returned (.bool (cI b1 b2)) ∧ w' = w := by
  cases b1 <;> cases b2 <;> (go_enter Try.func43, Try.ntmps43; go_wp2; go_ret; exact ⟨rfl, rfl⟩)

set_option maxHeartbeats 400000 in
theorem combine_bad (a b : List (Int × Int)) (v1 v2 fv : Value) (w : World) (hr1 : RdR w v1 a) (hr2 : RdR w v2 b) (hv : (valB a && valB b) = false) :
    Calls Try.prog 40 #[v1, v2, fv] w fun e w' => e = .returned (.tuple #[.slice none 0 0, .int .i64 1]) ∧ Below w.heap.size w w' := by
  have hv' : [a, b].all valB = false := by simpa using hv
  have hra := hr1
  have hrb := hr2
  obtain ⟨pa, ca, rfl, _⟩ := hra
  obtain ⟨pb, cb, rfl, _⟩ := hrb
  have HV := Lib.hid hv'
  clear hv hv'
  go_enter Try.func40, Try.ntmps40
  go_wp2_with fail
  refine (proper_any [a, b] _ _ (RdLL_two w _ _ a b _ hr1 hr2)).mono ?_
  rintro e w1 ⟨rfl, hb1⟩
  have hb01 : Below w.heap.size w w1 := bel ((Below.refl _ _).alloc (Nat.le_refl _) _) hb1
  have hv := HV.out
  go_wp2
  go_ret2
  exact ⟨rfl, hb01⟩

set_option maxHeartbeats 400000 in
theorem Union_ok (a b : List (Int × Int)) (v1 v2 : Value) (w : World) (hr1 : RdR w v1 a) (hr2 : RdR w v2 b) (hv1 : valB a = true) (hv2 : valB b = true) (hl1 : a.length ≤ 1000000) (hl2 : b.length ≤ 1000000) :
    Calls Try.prog 14 #[v1, v2] w (RetNF2' w (fun n => cU (inB a n) (inB b n) = true) (2 * (a.length + b.length))) := by
  have hcon := combine_ok cU rfl 41 (enters_of Try.func41 (by kernel_rfl) rfl) union1 a b v1 v2 w hr1 hr2 hv1 hv2 hl1 hl2
  have HC := Lib.hid hcon
  clear hcon hr1 hr2 hv1 hv2
  go_enter Try.func14, Try.ntmps14
  go_wp2_with fail
  refine HC.out.mono ?_
  rintro e w' ⟨v, x, rfl, h⟩
  have H := Lib.hid h
  clear h
  go_wp2
  go_ret2
  exact ⟨v, x, rfl, H.out⟩
set_option maxHeartbeats 400000 in
theorem Minus_ok (a b : List (Int × Int)) (v1 v2 : Value) (w : World) (hr1 : RdR w v1 a) (hr2 : RdR w v2 b) (hv1 : valB a = true) (hv2 : valB b = true) (hl1 : a.length ≤ 1000000) (hl2 : b.length ≤ 1000000) :
    Calls Try.prog 15 #[v1, v2] w (RetNF2' w (fun n => cM (inB a n) (inB b n) = true) (2 * (a.length + b.length))) := by
  have hcon := combine_ok cM rfl 42 (enters_of Try.func42 (by kernel_rfl) rfl) minus1 a b v1 v2 w hr1 hr2 hv1 hv2 hl1 hl2
  have HC := Lib.hid hcon
  clear hcon hr1 hr2 hv1 hv2
  go_enter Try.func15, Try.ntmps15
  go_wp2_with fail
  refine HC.out.mono ?_
  rintro e w' ⟨v, x, rfl, h⟩
  have H := Lib.hid h
  clear h
  go_wp2
  go_ret2
  exact ⟨v, x, rfl, H.out⟩
set_option maxHeartbeats 400000 in
theorem Meet_ok (a b : List (Int × Int)) (v1 v2 : Value) (w : World) (hr1 : RdR w v1 a) (hr2 : RdR w v2 b) (hv1 : valB a = true) (hv2 : valB b = true) (hl1 : a.length ≤ 1000000) (hl2 : b.length ≤ 1000000) :
    Calls Try.prog 16 #[v1, v2] w (RetNF2' w (fun n => cI (inB a n) (inB b n) = true) (2 * (a.length + b.length))) := by
  have hcon := combine_ok cI rfl 43 (enters_of Try.func43 (by kernel_rfl) rfl) meet1 a b v1 v2 w hr1 hr2 hv1 hv2 hl1 hl2
  have HC := Lib.hid hcon
  clear hcon hr1 hr2 hv1 hv2
  go_enter Try.func16, Try.ntmps16
  go_wp2_with fail
  refine HC.out.mono ?_
  rintro e w' ⟨v, x, rfl, h⟩
  have H := Lib.hid h
  clear h
  go_wp2
  go_ret2
  exact ⟨v, x, rfl, H.out⟩

def RetBad (w : World) (e : Ending) (w' : World) : Prop := e = .returned (.tuple #[.slice none 0 0, .int .i64 1]) ∧ Below w.heap.size w w'

set_option maxHeartbeats 400000 in
theorem Union_bad (a b : List (Int × Int)) (v1 v2 : Value) (w : World) (hr1 : RdR w v1 a) (hr2 : RdR w v2 b) (hv : (valB a && valB b) = false) : Calls Try.prog 14 #[v1, v2] w (RetBad w) := by
  have HC := Lib.hid (fun fv => combine_bad a b v1 v2 fv w hr1 hr2 hv)
  clear hr1 hr2 hv
  go_enter Try.func14, Try.ntmps14
  go_wp2_with fail
  refine (HC.out _).mono ?_
  rintro e w' ⟨rfl, hb⟩
  go_wp2
  go_ret2
  exact ⟨rfl, hb⟩
set_option maxHeartbeats 400000 in
theorem Minus_bad (a b : List (Int × Int)) (v1 v2 : Value) (w : World) (hr1 : RdR w v1 a) (hr2 : RdR w v2 b) (hv : (valB a && valB b) = false) : Calls Try.prog 15 #[v1, v2] w (RetBad w) := by
  have HC := Lib.hid (fun fv => combine_bad a b v1 v2 fv w hr1 hr2 hv)
  clear hr1 hr2 hv
  go_enter Try.func15, Try.ntmps15
  go_wp2_with fail
  refine (HC.out _).mono ?_
  rintro e w' ⟨rfl, hb⟩
  go_wp2
  go_ret2
  exact ⟨rfl, hb⟩
set_option maxHeartbeats 400000 in
theorem Meet_bad (a b : List (Int × Int)) (v1 v2 : Value) (w : World) (hr1 : RdR w v1 a) (hr2 : RdR w v2 b) (hv : (valB a && valB b) = false) : Calls Try.prog 16 #[v1, v2] w (RetBad w) := by
  have HC := Lib.hid (fun fv => combine_bad a b v1 v2 fv w hr1 hr2 hv)
  clear hr1 hr2 hv
  go_enter Try.func16, Try.ntmps16
  go_wp2_with fail
  refine (HC.out _).mono ?_
  rintro e w' ⟨rfl, hb⟩
  go_wp2
  go_ret2
  exact ⟨rfl, hb⟩

theorem neqAt : Go.Proofs.NeqAt Try.prog 36 (fun x : Int × Int => .agg (encR x).toArray) eqR := ⟨fun x y w => neqR_run x y w, Go.Proofs.GuardAt.agg _ (by kernel_rfl)⟩
end Go.Proofs.Yteengifhndmjeaa
