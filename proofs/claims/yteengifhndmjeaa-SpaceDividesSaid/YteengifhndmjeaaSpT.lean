/- awake: the sanity check of the laws of ch. 14. -/
import Derived.Test.YteengifhndmjeaaSpE
import Derived.Test.YteengifhndmjeaaSpQ
namespace Go.Proofs.Yteengifhndmjeaa
open Go.RowKit

theorem block_new' {w : World} {k : Nat} {o : Obj} (h : k = w.heap.size) : (w.alloc o).heap[k]? = some o := by
  subst h
  exact heap_alloc_new w o

def pv0B : ByteArray := ⟨#[112, 118, 48]⟩
def awD : DiskM := ⟨⟨#[112, 118, 48]⟩, 1, 0, 10, false, false, []⟩
def awA : AreaM := ⟨false, ⟨#[112, 118, 48]⟩, 2⟩
def awS : SegM := ⟨0, 3, 1, [awA], 0, [], ⟨#[]⟩, ⟨#[]⟩, 0, 0, 0⟩
def awV : VolM := ⟨⟨#[97]⟩, 0, false, false, [], [awS]⟩
theorem aw_find : findD [awD] ⟨#[112, 118, 48]⟩ = some awD := by kernel_rfl
theorem aw_used : usedR ⟨#[112, 118, 48]⟩ 10 (pieces [awV]) = [(2, 3)] := by kernel_rfl
theorem aw_owner : ownerR [awD] [awV] ⟨#[112, 118, 48]⟩ 4 = (⟨#[97]⟩, true) := by kernel_rfl
theorem aw_free {x : List (Int × Int)} (h : NFof x (fun n => (0 ≤ n ∧ n < 10) ∧ ¬ Mem (usedR ⟨#[112, 118, 48]⟩ 10 (pieces [awV])) n)) : x = [(0, 2), (5, 5)] := by
  rw [aw_used] at h
  refine NFof.eq (y := [(0, 2), (5, 5)]) (T := Mem [(0, 2), (5, 5)]) h ⟨⟨by simp, by simp⟩, fun _ => Iff.rfl⟩ fun n => ?_
  simp only [Mem, List.mem_cons, List.not_mem_nil, or_false, exists_eq_or_imp, exists_eq_left]
  omega
theorem aw_tame : TameV [awV] := fun v hv => by
  obtain rfl := List.mem_singleton.1 hv
  refine ⟨by decide, fun s hs => ?_⟩
  obtain rfl := List.mem_singleton.1 hs
  refine ⟨by decide, by decide, fun _ a ha => ?_⟩
  obtain rfl := List.mem_singleton.1 ha
  rfl
theorem aw_pieces : pieces [awV] = [⟨⟨#[97]⟩, ⟨#[112, 118, 48]⟩, 2, 3⟩] := by kernel_rfl

set_option maxRecDepth 100000 in
set_option maxHeartbeats 4000000 in
theorem awake14_any (w : World) :
    Calls Try.prog 35 #[] w fun e w' => e = .returned (.bool true) ∧ Below w.heap.size w w' := by
  go_enter Try.func35, Try.ntmps35
  go_wp2_with fail
  generalize hW5 : World.alloc (World.alloc (World.alloc (World.alloc (World.alloc w _) _) _) _) _ = W5
  have b5 : Below w.heap.size w W5 := by
    rw [← hW5]
    exact (((((Below.refl _ _).alloc (Nat.le_refl _) _).alloc (by simp <;> omega) _).alloc (by simp <;> omega) _).alloc (by simp <;> omega) _).alloc (by simp <;> omega) _
  have hz5 : W5.heap.size = w.heap.size + 5 := by rw [← hW5]; simp
  have h0 : W5.heap[w.heap.size]? = some (.cells #[.string ⟨#[112, 118, 48]⟩, .int .u64 1, .int .i64 0, .int .i64 10, .bool false, .bool false, .slice none 0 0] 59 (0, 0)) := by
    rw [← hW5, Below.heap_alloc _ _ _ (by simp <;> omega), Below.heap_alloc _ _ _ (by simp <;> omega), Below.heap_alloc _ _ _ (by simp <;> omega), Below.heap_alloc _ _ _ (by simp <;> omega)]
    exact heap_alloc_new w _
  have h1 : W5.heap[w.heap.size + 1]? = some (.cells #[.string ⟨#[118, 103]⟩, .int .u64 0, .int .i64 0, .int .i64 4, .int .i64 0, .slice none 0 0, .slice (some ⟨w.heap.size, 0, none⟩) 1 1, .slice (some ⟨w.heap.size + 1 + 1 + 1 + 1, 0, none⟩) 1 1, .slice none 0 0] 52 (0, 0)) := by
    rw [← hW5, Below.heap_alloc _ _ _ (by simp <;> omega), Below.heap_alloc _ _ _ (by simp <;> omega), Below.heap_alloc _ _ _ (by simp <;> omega)]
    have := fun o => heap_alloc_new (w.alloc (.cells #[.string ⟨#[112, 118, 48]⟩, .int .u64 1, .int .i64 0, .int .i64 10, .bool false, .bool false, .slice none 0 0] 59)) o
    simp only [World.size_alloc] at this
    exact this _
  have h2 : W5.heap[w.heap.size + 1 + 1]? = some (.cells #[.bool false, .string ⟨#[112, 118, 48]⟩, .int .i64 2] 98 (0, 0)) := by
    rw [← hW5, Below.heap_alloc _ _ _ (by simp <;> omega), Below.heap_alloc _ _ _ (by simp <;> omega)]
    exact block_new' (by simp)
  have h3 : W5.heap[w.heap.size + 1 + 1 + 1]? = some (.cells #[.int .i64 0, .int .i64 3, .int .i64 1, .slice (some ⟨w.heap.size + 1 + 1, 0, none⟩) 1 1, .int .i64 0, .slice none 0 0, .string ⟨#[]⟩, .string ⟨#[]⟩, .int .i64 0, .int .i64 0, .int .i64 0] 101 (0, 0)) := by
    rw [← hW5, Below.heap_alloc _ _ _ (by simp <;> omega)]
    exact block_new' (by simp)
  have h4 : W5.heap[w.heap.size + 1 + 1 + 1 + 1]? = some (.cells #[.string ⟨#[97]⟩, .int .u64 0, .bool false, .bool false, .slice none 0 0, .slice (some ⟨w.heap.size + 1 + 1 + 1, 0, none⟩) 1 1] 56 (0, 0)) := by
    rw [← hW5]
    exact block_new' (by simp)
  clear hW5
  have hr : RdS vDisk 7 (fun _ => True) W5 [.slice (some ⟨w.heap.size, 0, none⟩) 1 1] [awD] := RdS.one (u := [.string ⟨#[112, 118, 48]⟩, .int .u64 1, .int .i64 0, .int .i64 10, .bool false, .bool false, .slice none 0 0]) h0 trivial rfl ⟨_, rfl, RdS.nil⟩
  have ha : RdS vArea 3 (fun _ => True) W5 [.slice (some ⟨w.heap.size + 1 + 1, 0, none⟩) 1 1] [awA] := RdS.one (u := [.bool false, .string ⟨#[112, 118, 48]⟩, .int .i64 2]) h2 trivial rfl rfl
  have hs : RdS vSeg 11 (fun _ => True) W5 [.slice (some ⟨w.heap.size + 1 + 1 + 1, 0, none⟩) 1 1] [awS] := RdS.one (u := [.int .i64 0, .int .i64 3, .int .i64 1, .slice (some ⟨w.heap.size + 1 + 1, 0, none⟩) 1 1, .int .i64 0, .slice none 0 0, .string ⟨#[]⟩, .string ⟨#[]⟩, .int .i64 0, .int .i64 0, .int .i64 0]) h3 trivial rfl ⟨_, _, rfl, ha, RdS.nil⟩
  have hv : RdS vVol 6 (fun _ => True) W5 [.slice (some ⟨w.heap.size + 1 + 1 + 1 + 1, 0, none⟩) 1 1] [awV] := RdS.one (u := [.string ⟨#[97]⟩, .int .u64 0, .bool false, .bool false, .slice none 0 0, .slice (some ⟨w.heap.size + 1 + 1 + 1, 0, none⟩) 1 1]) h4 trivial rfl ⟨_, _, rfl, RdS.nil, hs⟩
  have hB5 := Lib.hid b5
  have H1 := Lib.hid h1
  clear ha hs h0 h1 h2 h3 h4 b5
  have hps : ∀ p ∈ pieces [awV], 0 ≤ p.start ∧ p.start ≤ 1000000 := by rw [aw_pieces]; intro p hp; obtain rfl := List.mem_singleton.1 hp; decide
  have hpn : (pieces [awV]).length ≤ 100000 := by rw [aw_pieces]; decide
  have htg : ∀ D ∈ [awD], D.tags.length ≤ 1000 := by intro D hD; obtain rfl := List.mem_singleton.1 hD; decide
  have hde : ∀ D ∈ [awD], 0 ≤ D.extents ∧ D.extents ≤ 1000000 := by intro D hD; obtain rfl := List.mem_singleton.1 hD; decide
  refine (Free_any (ok := fun _ => True) ⟨#[118, 103]⟩ 0 0 4 0 none (some ⟨w.heap.size, 0, none⟩) (some ⟨w.heap.size + 1 + 1 + 1 + 1, 0, none⟩) none 0 0 1 1 0 0 [awD] [awV] ⟨#[112, 118, 48]⟩ W5 hr (by decide) htg hde hv (by decide) aw_tame hps hpn).mono ?_
  intro e w6 hf
  unfold FreeP at hf
  rw [aw_find] at hf
  obtain ⟨v6, x6, rfl, ho6, hn6, hv6, hl6, hb6⟩ := hf
  obtain rfl := aw_free hn6
  have HB6 := Lib.hid (hB5.out.trans (hb6.mono hB5.out.size))
  have HR6 := Lib.hid ((RdS.moves vDisk.moves).mv ⟨hb6.size, fun b hb ho => ⟨ho, hb6.block b hb⟩⟩ hr)
  have HV6 := Lib.hid ((RdS.moves vVol.moves).mv ⟨hb6.size, fun b hb ho => ⟨ho, hb6.block b hb⟩⟩ hv)
  have h1 := (hb6.block _ (lt_of_block H1.out)).trans H1.out
  have gL : ∀ (j : Nat) (z : Value), [.string ⟨#[118, 103]⟩, .int .u64 0, .int .i64 0, .int .i64 4, .int .i64 0, .slice none 0 0, .slice (some ⟨w.heap.size, 0, none⟩) 1 1, .slice (some ⟨w.heap.size + 1 + 1 + 1 + 1, 0, none⟩) 1 1, .slice none 0 0][j]? = some z → w6.cell? ⟨w.heap.size + 1, j, none⟩ = some z := fun j z hz => by
    simp only [World.cell?, h1]
    simpa using hz
  have y0 := gL 0 _ rfl
  have y1 := gL 1 _ rfl
  have y2 := gL 2 _ rfl
  have y3 := gL 3 _ rfl
  have y4 := gL 4 _ rfl
  have y5 := gL 5 _ rfl
  have y6 := gL 6 _ rfl
  have y7 := gL 7 _ rfl
  have y8 := gL 8 _ rfl
  have HO6 := Lib.hid ho6; clear ho6
  clear gL h1 hb6 hn6 hv6 hl6 hr hv hps hpn
  go_wp2_with fail
  clear y0 y1 y2 y3 y4 y5 y6 y7 y8
  refine (Owner_any (ok := fun _ => True) ⟨#[118, 103]⟩ 0 0 4 0 none (some ⟨w.heap.size, 0, none⟩) (some ⟨w.heap.size + 1 + 1 + 1 + 1, 0, none⟩) none 0 0 1 1 0 0 [awD] [awV] ⟨#[112, 118, 48]⟩ 4 w6 HR6.out (by decide) htg HV6.out (by decide) aw_tame).mono ?_
  rintro e w7 ⟨rfl, hb7⟩
  rw [aw_owner]
  have HO7 := Lib.hid (OwnR.below HO6.out hb7)
  have HB7 := Lib.hid (HB6.out.trans (hb7.mono HB6.out.size))
  have hs97 : ((⟨#[97]⟩ : ByteArray).toList == (⟨#[97]⟩ : ByteArray).toList) = true := by simp
  clear hb7
  go_wp2_with fail
  generalize hW8 : World.alloc w7 _ = W8
  have hb8 : Below w7.heap.size w7 W8 := by rw [← hW8]; exact below_alloc _ _
  have h8 : W8.heap[w7.heap.size]? = some (.cells #[.int .i64 0, .int .i64 2, .int .i64 5, .int .i64 5] 36 (0, 0)) := by rw [← hW8]; exact heap_alloc_new w7 _
  clear hW8
  have hr8 : RdR W8 (.slice (some ⟨w7.heap.size, 0, none⟩) 2 2) [(0, 2), (5, 5)] := ⟨_, 2, rfl, by simp, by omega, fun _ => ⟨_, 0, rfl, lt_of_block h8, fun i p hp => by
    match i, hp with
    | 0, hp =>
      obtain rfl : ((0 : Int), (2 : Int)) = p := by simpa using hp
      exact ⟨by simp [World.cell?, h8], by simp [World.cell?, h8]⟩
    | 1, hp =>
      obtain rfl : ((5 : Int), (5 : Int)) = p := by simpa using hp
      exact ⟨by simp [World.cell?, h8], by simp [World.cell?, h8]⟩⟩⟩
  refine (same_any _ _ v6 _ W8 (OwnR.below HO7.out hb8).rd hr8).mono ?_
  rintro e w9 ⟨rfl, hb9⟩
  have hsm : sameB [(0, 2), (5, 5)] [(0, 2), (5, 5)] = true := by decide
  rw [hsm]
  have HB9 := Lib.hid ((HB7.out.trans (hb8.mono HB7.out.size)).trans (hb9.mono (Nat.le_trans HB7.out.size hb8.size)))
  clear hb8 hb9 h8 hr8
  go_wp2
  go_ret
  exact ⟨rfl, HB9.out⟩

end Go.Proofs.Yteengifhndmjeaa
