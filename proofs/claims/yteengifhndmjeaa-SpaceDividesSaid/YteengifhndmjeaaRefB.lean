/- Contracts of the reference: ends. -/
import Derived.Test.YteengifhndmjeaaRefA
import Derived.Test.YteengifhndmjeaaRanM
import Derived.Deep.RegionHeld3
namespace Go.Proofs.Yteengifhndmjeaa
open Go.RowKit

def RetPts2 (w : World) (Z : List Int) (e : Ending) (w' : World) : Prop := ∃ v P, e = .returned v ∧ RdI w' v P ∧ Points P Z ∧ P.length ≤ Z.length ∧ Below w.heap.size w w'

set_option maxHeartbeats 2000000 in
set_option maxRecDepth 100000 in
theorem refEnds_any (l : List (Int × Int)) (v : Value) (w : World) (hr : RdR w v l) (hval : valB l = true) (hlen : l.length ≤ 1000000) :
    Calls Try.prog 62 #[v] w (RetPts2 w (endsOf l)) := by
  have HV := Lib.hid hval
  clear hval
  obtain ⟨p, cap, rfl, hlc, hcap, hp⟩ := hr
  go_enter Try.func62, Try.ntmps62
  go_wp2
  go_loopw [3, 4] (fun vo i wr => ∃ (k : Nat) (o : List Int), k ≤ l.length ∧ i = .int .i64 k ∧ RdI wr vo o ∧ o.Pairwise (· < ·) ∧ (∀ m, m ∈ o ↔ m ∈ endsOf (l.take k)) ∧ o.length ≤ 2 * k ∧ Below w.heap.size w wr) (fun _ i _ => l.length - (intOf i).toNat)
  case atStart => exact ⟨0, [], Nat.zero_le _, rfl, RdI.nil _, List.Pairwise.nil, by simp [endsOf], by simp, Below.refl _ _⟩
  case round =>
    obtain ⟨k, o, hk, rfl, hro, hso, hmo, hol, hb⟩ := hrel
    by_cases hlt : k < l.length
    · obtain ⟨b, off, rfl, hbs, hc⟩ := hp (by omega)
      obtain ⟨x, hx⟩ := getSome l k hlt
      have hcc := (hc.below hb hbs) k x hx
      have hc1 := hcc.1
      have hc2 := hcc.2
      have hbw : b < wr.heap.size := Nat.lt_of_lt_of_le hbs hb.size
      obtain ⟨hx0, hx1, hx2⟩ := valB_bd HV.out x (List.mem_of_getElem? hx)
      have HX := Lib.hid hx
      have HMO := Lib.hid hmo
      have HRO := Lib.hid (fun (W : World) (hW : Below wr.heap.size wr W) => hro.below hW)
      have HSO := Lib.hid hso
      clear hc hp hcc hx hmo hro hso
      have hw1 : IntKind.i64.wrap (x.1 + x.2) = x.1 + x.2 := IntWalk.i64_in _ (by omega)
      go_wp2
      go_region_held3 (fun w' => w'.cell? ⟨b, off + k * 2, none⟩ = some (.int .i64 x.1) ∧ w'.cell? ⟨b, off + k * 2 + 1, none⟩ = some (.int .i64 x.2)) (go_keep)
        (first
          | (go_at_call_of 79 (Value.int .i64 x.1); refine (insert_any o x.1 _ _ (HRO.out _ ((Below.refl _ _).drew)) HSO.out (by omega)).mono ?_; rintro e w2 ⟨v2, o2, rfl, hro2, hso2, hmo2, hol2, hb2⟩; have hd1 : w2.cell? ⟨b, off + k * 2, none⟩ = some (.int .i64 x.1) := (hb2.cell (p := ⟨b, off + k * 2, none⟩) (by simpa using hbw)).trans (by simpa using hc1); have hd2 : w2.cell? ⟨b, off + k * 2 + 1, none⟩ = some (.int .i64 x.2) := (hb2.cell (p := ⟨b, off + k * 2 + 1, none⟩) (by simpa using hbw)).trans (by simpa using hc2))
          | (go_at_call_of 79 (Value.int .i64 (x.1 + x.2)); refine (insert_any o2 (x.1 + x.2) _ _ hro2 hso2 (by omega)).mono ?_; rintro e w3 ⟨v3, o3, rfl, hro3, hso3, hmo3, hol3, hb3⟩; have hf1 : w3.cell? ⟨b, off + k * 2, none⟩ = some (.int .i64 x.1) := (hb3.cell (p := ⟨b, off + k * 2, none⟩) (Nat.lt_of_lt_of_le hbw hb2.size)).trans hd1; have hf2 : w3.cell? ⟨b, off + k * 2 + 1, none⟩ = some (.int .i64 x.2) := (hb3.cell (p := ⟨b, off + k * 2 + 1, none⟩) (Nat.lt_of_lt_of_le hbw hb2.size)).trans hd2))
      clear hw1 hd1 hd2 hf1 hf2 hc1 hc2
      have hb5 : Below w.heap.size w w3 := bel (bel hb.drew hb2) hb3
      have hmem : ∀ m, m ∈ o3 ↔ m ∈ endsOf (l.take (k + 1)) := fun m => by
        rw [hmo3, hmo2, HMO.out, endsOf_snoc l k x HX.out, List.mem_append]
        simp
        constructor
        · rintro ((h | h) | h)
          · exact .inl h
          · exact .inr (.inl h)
          · exact .inr (.inr h)
        · rintro (h | h | h)
          · exact .inl (.inl h)
          · exact .inl (.inr h)
          · exact .inr h
      have HM := Lib.hid hmem
      have HS3 := Lib.hid hso3
      clear hmem hmo2 hmo3 hso2 hso3
      go_wp2
      go_roundw
      case rel => exact ⟨k + 1, o3, by omega, by go_num, hro3, HS3.out, HM.out, by omega, hb5⟩
      case measure => simp [intOf]; omega
    · have hkn : k = l.length := by omega
      subst hkn
      rw [List.take_length] at hmo
      have HM := Lib.hid hmo
      clear hmo
      go_wp2
      go_ret
      exact ⟨_, o, rfl, hro, ⟨hso, HM.out⟩, by rw [endsOf_len]; omega, hb⟩

end Go.Proofs.Yteengifhndmjeaa
