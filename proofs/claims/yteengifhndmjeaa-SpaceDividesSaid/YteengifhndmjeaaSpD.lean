/- slices.Clone of strings; model.Disk. -/
import Derived.Test.YteengifhndmjeaaSpC
import Derived.Test.YteengifhndmjeaaRanB
import Derived.Laws.Strings
namespace Go.Proofs.Yteengifhndmjeaa
open Go.RowKit Go.Sort

set_option maxHeartbeats 400000 in
theorem cloneS_any {ok : Nat → Prop} (l : List ByteArray) (v : Value) (w : World) (hr : RdS vStr 1 ok w [v] l) (hlen : l.length ≤ 100000000) :
    Calls Try.prog 76 #[v] w fun e w' => ∃ p n c, e = .returned (.slice p n c) ∧ Below w.heap.size w w' := by
  obtain ⟨p, cap, e, hlc, hcap, hp⟩ := hr
  obtain rfl := List.singleton_inj.1 e
  clear e
  cases p with
  | none =>
    have hl : l = [] := by
      cases l with
      | nil => rfl
      | cons a l => obtain ⟨b, off, e, _⟩ := hp (by simp); cases e
    subst hl
    refine (AnyE.slices_Clone_nil Try.cloneS _ _ w).mono ?_
    rintro e w' ⟨rfl, rfl⟩
    exact ⟨_, _, _, rfl, Below.refl _ _⟩
  | some a =>
    by_cases h0 : 0 < l.length
    · obtain ⟨b, off, e, hb, _, hc⟩ := hp h0
      cases e
      obtain ⟨i0, hi, hz0, hz1, hz2⟩ := info_parts infoS
      refine (AnyE.slices_Clone Try.cloneS i0 _ 1 16 hi hz0 hz1 hz2 rfl (by decide) Try.sizeOf9 b off l.length cap (l.map Value.string) w (by simp) (by unfold maxLen; omega) (by omega) (fun j u hu => ?_) (by simp [Value.oneCell'])).mono ?_
      · rw [List.getElem?_map] at hu
        obtain ⟨x, hx, rfl⟩ := Option.map_eq_some_iff.1 hu
        obtain ⟨u, hu1, hu2, hu3⟩ := hc j x hx
        obtain rfl : u = [.string x] := hu2
        have := hu3 0 _ rfl
        simpa using this
      · rintro e w' ⟨v', rfl, ho, _, hb'⟩
        rcases ho.2 with ⟨rfl, _⟩ | ⟨g, c, cur, rfl, _⟩
        · exact ⟨_, _, _, rfl, hb'⟩
        · exact ⟨_, _, _, rfl, hb'⟩
    · have hl : l = [] := List.eq_nil_of_length_eq_zero (by omega)
      subst hl
      have q22 : ∀ (w : World) (a : Option Addr) (n c n' c' : Nat), (binOp .eql 47 (.slice a n c) (.slice none n' c')).run Try.prog w = .ok (.bool a.isNone) w := fun w a n c n' c' => Lib.run_eql_slice_nil w _ _ a n c n' c' Try.underlying47
      show Calls Try.prog _ #[.slice (some a) 0 cap] w _
      go_enter Try.func76, Try.ntmps76
      go_wp2
      go_ret
      exact ⟨_, _, _, rfl, (Below.refl _ _).alloc (Nat.le_refl _) _⟩

theorem bytes_ne {a b : ByteArray} (h : ¬ a = b) : (a.toList == b.toList) = false := by
  rw [ByteArray.toList_eq, ByteArray.toList_eq]
  obtain ⟨⟨x⟩⟩ := a
  obtain ⟨⟨y⟩⟩ := b
  simp only [beq_eq_false_iff_ne]
  exact fun e => h (by rw [show x = y from e])

theorem find_none {disks : List DiskM} {nm : ByteArray} (h : ∀ (j : Nat) (D : DiskM), j < disks.length → disks[j]? = some D → ¬ D.name = nm) : disks.find? (fun D => decide (D.name = nm)) = none := by
  rw [List.find?_eq_none]
  intro D hD
  obtain ⟨j, hj⟩ := List.getElem?_of_mem hD
  simpa using h j D (List.getElem?_eq_some_iff.1 hj).1 hj
theorem find_at : ∀ {disks : List DiskM} {nm : ByteArray} {k : Nat} {D : DiskM}, (∀ (j : Nat) (E : DiskM), j < k → disks[j]? = some E → ¬ E.name = nm) → disks[k]? = some D → D.name = nm → disks.find? (fun D => decide (D.name = nm)) = some D
  | [], _, _, _, _, h, _ => by simp at h
  | E :: l, nm, 0, D, _, h, e => by
    obtain rfl : E = D := by simpa using h
    simp [e]
  | E :: l, nm, k + 1, D, hno, h, e => by
    have h0 : ¬ E.name = nm := hno 0 E (by omega) rfl
    rw [List.find?_cons_of_neg (by simpa using h0)]
    exact find_at (k := k) (fun j F hj hF => hno (j + 1) F (by omega) (by simpa using hF)) (by simpa using h) e

/-- A group as a value. -/
def grpV (name : ByteArray) (id seq ext nx : Int) (tp dp vp hp : Option Addr) (tl tc dl dc vl vc hl hc : Nat) : Value := .agg #[.string name, .int .u64 id, .int .i64 seq, .int .i64 ext, .int .i64 nx, .slice tp tl tc, .slice dp dl dc, .slice vp vl vc, .slice hp hl hc]

/-- The first disk of a name. -/
def findD (disks : List DiskM) (nm : ByteArray) : Option DiskM := disks.find? fun D => decide (D.name = nm)

def DiskP (disks : List DiskM) (nm : ByteArray) (w : World) (e : Ending) (w' : World) : Prop := Below w.heap.size w w' ∧
  match findD disks nm with
  | some D => ∃ p n c, e = .returned (.tuple #[.agg #[.string D.name, .int .u64 D.id, .int .i64 D.first, .int .i64 D.extents, .bool D.closed, .bool D.missing, .slice p n c], .bool true])
  | none => e = .returned (.tuple #[.agg #[.string ⟨#[]⟩, .int .u64 0, .int .i64 0, .int .i64 0, .bool false, .bool false, .slice none 0 0], .bool false])

set_option maxRecDepth 100000 in
set_option maxHeartbeats 4000000 in
theorem Disk_any {ok : Nat → Prop} (name : ByteArray) (id seq ext nx : Int) (tp dp vp hp : Option Addr) (tl tc dc vl vc hl hc : Nat) (disks : List DiskM) (nm : ByteArray) (w : World) (hr : RdS vDisk 7 ok w [.slice dp disks.length dc] disks) (hd : disks.length ≤ 1000) (ht : ∀ D ∈ disks, D.tags.length ≤ 1000) :
    Calls Try.prog 60 #[.agg #[.string name, .int .u64 id, .int .i64 seq, .int .i64 ext, .int .i64 nx, .slice tp tl tc, .slice dp disks.length dc, .slice vp vl vc, .slice hp hl hc], .string nm] w (DiskP disks nm w) := by
  have HR := Lib.hid hr; clear hr
  have HT := Lib.hid ht; clear ht
  go_enter Try.func60, Try.ntmps60
  go_wp2
  go_loopw [11] (fun i wr => ∃ k : Nat, k ≤ disks.length ∧ i = .int .i64 k ∧ (∀ j D, j < k → disks[j]? = some D → ¬ D.name = nm) ∧ Below w.heap.size w wr ∧ w.heap.size + 1 < wr.heap.size ∧ wr.heap[w.heap.size + 1]? = some (.cells #[.string ⟨#[]⟩, .int .u64 0, .int .i64 0, .int .i64 0, .bool false, .bool false, .slice none 0 0] 59 (0, 0))) (fun i _ => disks.length - (intOf i).toNat)
  case atStart =>
    refine ⟨0, Nat.zero_le _, rfl, (fun j D hj => by omega), ((Below.refl _ _).alloc (Nat.le_refl _) _).alloc (by simp) _, by simp, ?_⟩
    have := heap_alloc_new (w.alloc (.cells #[.string name, .int .u64 id, .int .i64 seq, .int .i64 ext, .int .i64 nx, .slice tp tl tc, .slice dp disks.length dc, .slice vp vl vc, .slice hp hl hc] 52)) (.cells #[.string ⟨#[]⟩, .int .u64 0, .int .i64 0, .int .i64 0, .bool false, .bool false, .slice none 0 0] 59)
    rw [World.size_alloc] at this
    exact this
  case round =>
    obtain ⟨k, hk, rfl, hno, hB, hz, hR⟩ := hrel
    have HNO := Lib.hid hno; clear hno
    have r0 : wr.cell? ⟨w.heap.size + 1, 0, none⟩ = some (.string ⟨#[]⟩) := by simp [World.cell?, hR]
    by_cases hlt : k < disks.length
    · obtain ⟨D, hD⟩ := getSome disks k hlt
      obtain ⟨b, off, u, rfl, hob, hbw, hul, hvv, hcv⟩ := HR.out.elem hD
      obtain ⟨tv, rfl, htr⟩ := hvv
      obtain ⟨tp', tc', rfl, _, _⟩ := htr.cap
      have hbk : wr.heap[b]? = w.heap[b]? := hB.block b hbw
      have q0 := (World.cell?_of_block (w := w) (a := ⟨b, off + k * 7, none⟩) hbk).trans (hcv 0 _ rfl)
      have q1 := (World.cell?_of_block (w := w) (a := ⟨b, off + k * 7 + 1, none⟩) hbk).trans (hcv 1 _ rfl)
      have q2 := (World.cell?_of_block (w := w) (a := ⟨b, off + k * 7 + 2, none⟩) hbk).trans (hcv 2 _ rfl)
      have q3 := (World.cell?_of_block (w := w) (a := ⟨b, off + k * 7 + 3, none⟩) hbk).trans (hcv 3 _ rfl)
      have q4 := (World.cell?_of_block (w := w) (a := ⟨b, off + k * 7 + 4, none⟩) hbk).trans (hcv 4 _ rfl)
      have q5 := (World.cell?_of_block (w := w) (a := ⟨b, off + k * 7 + 5, none⟩) hbk).trans (hcv 5 _ rfl)
      have q6 := (World.cell?_of_block (w := w) (a := ⟨b, off + k * 7 + 6, none⟩) hbk).trans (hcv 6 _ rfl)
      have HD := Lib.hid hD; clear hD
      have HTR := Lib.hid htr; clear htr
      have HRB := Lib.hid hR; clear hR
      clear hcv hul hbk r0
      by_cases hnm : D.name = nm
      · have hbA := below_alloc wr (.cells #[.string nm, .int .u64 D.id, .int .i64 D.first, .int .i64 D.extents, .bool D.closed, .bool D.missing, .slice tp' D.tags.length tc'] 59)
        have HBx := Lib.hid (heap_alloc_new wr (.cells #[.string nm, .int .u64 D.id, .int .i64 D.first, .int .i64 D.extents, .bool D.closed, .bool D.missing, .slice tp' D.tags.length tc'] 59))
        have HRA := Lib.hid ((hbA.block _ hz).trans HRB.out)
        have HBA := Lib.hid (hB.trans (hbA.mono (by omega)))
        have HZA : Hid (wr.heap.size < (wr.alloc (.cells #[.string nm, .int .u64 D.id, .int .i64 D.first, .int .i64 D.extents, .bool D.closed, .bool D.missing, .slice tp' D.tags.length tc'] 59)).heap.size) := Lib.hid (by simp)
        have htl := HT.out D (List.mem_of_getElem? HD.out)
        clear hbA
        go_wp2_with fail
        generalize hWA : wr.alloc _ = WA at *
        clear hWA
        refine (cloneS_any (ok := fun b => ok b ∧ b < w.heap.size) D.tags _ _ ((RdS.moves vStr.moves).mv ⟨HBA.out.size, fun b hb ho => ⟨⟨ho, hb⟩, HBA.out.block b hb⟩⟩ HTR.out) (by omega)).mono ?_
        rintro e w3 ⟨p3, n3, c3, rfl, hb3⟩
        have hx := (hb3.block _ HZA.out).trans HBx.out
        have hr3 := (hb3.block _ (by have := lt_of_block HRA.out; omega)).trans HRA.out
        have xL : ∀ (j : Nat) (z : Value), [.string nm, .int .u64 D.id, .int .i64 D.first, .int .i64 D.extents, .bool D.closed, .bool D.missing, .slice tp' D.tags.length tc'][j]? = some z → w3.cell? ⟨wr.heap.size, j, none⟩ = some z := fun j z hz => by
          simp only [World.cell?, hx]
          simpa using hz
        have rL : ∀ (j : Nat) (z : Value), [.string ⟨#[]⟩, .int .u64 0, .int .i64 0, .int .i64 0, .bool false, .bool false, .slice none 0 0][j]? = some z → w3.cell? ⟨w.heap.size + 1, j, none⟩ = some z := fun j z hz => by
          simp only [World.cell?, hr3]
          simpa using hz
        have x0 := xL 0 _ rfl
        have r0 := rL 0 _ rfl
        have x1 := xL 1 _ rfl
        have r1 := rL 1 _ rfl
        have x2 := xL 2 _ rfl
        have r2 := rL 2 _ rfl
        have x3 := xL 3 _ rfl
        have r3 := rL 3 _ rfl
        have x4 := xL 4 _ rfl
        have r4 := rL 4 _ rfl
        have x5 := xL 5 _ rfl
        have r5 := rL 5 _ rfl
        have x6 := xL 6 _ rfl
        have r6 := rL 6 _ rfl
        have xf : ∀ i, w3.frozen? ⟨wr.heap.size, i, none⟩ = false := fun i => by simp [World.frozen?, hx]
        have rf : ∀ i, w3.frozen? ⟨w.heap.size + 1, i, none⟩ = false := fun i => by simp [World.frozen?, hr3]
        have HB3 := Lib.hid (HBA.out.trans (hb3.mono HBA.out.size))
        clear xL rL hx hr3 hb3
        have hne : ¬ wr.heap.size = w.heap.size + 1 := by omega
        have hne2 : ¬ w.heap.size + 1 = wr.heap.size := by omega
        generalize hBx : wr.heap.size = Bx at *
        have HDN := Lib.hid hnm
        have HDK := Lib.hid HD.out
        go_wp2
        refine bodyPost_ret (v := .tuple #[.agg #[.string nm, .int .u64 D.id, .int .i64 D.first, .int .i64 D.extents, .bool D.closed, .bool D.missing, .slice p3 n3 c3], .bool true]) (by simp [results, Try.results60, go_sem, r0, r1, r2, r3, r4, r5, r6]) rfl ⟨?_, ?_⟩
        · have hL : ∀ (V : World) (o : Nat) (z : Value), Below w.heap.size w V → Below w.heap.size w (V.setCell ⟨w.heap.size + 1, o, none⟩ z) := fun V o z q => q.setCell (p := ⟨w.heap.size + 1, o, none⟩) (by show w.heap.size ≤ w.heap.size + 1; omega) z
          exact hL _ _ _ (hL _ _ _ (hL _ _ _ (hL _ _ _ (hL _ _ _ (hL _ _ _ (hL _ _ _ (HB3.out.setCell (p := ⟨Bx, 6, none⟩) (by show w.heap.size ≤ Bx; omega) _)))))))
        · rw [show findD disks nm = some D from find_at HNO.out HDK.out HDN.out]
          exact ⟨p3, n3, c3, by rw [HDN.out]⟩
      · have e1 := bytes_ne hnm
        go_wp2
        go_roundw
        case rel =>
          refine ⟨k + 1, by omega, by go_num, fun j E hj hE => ?_, hB.alloc (by omega) _, by simp; omega, (Below.heap_alloc _ _ _ (by omega)).trans HRB.out⟩
          by_cases hjk : j = k
          · subst hjk
            rw [HD.out] at hE
            injection hE with hE
            rw [← hE]
            exact hnm
          · exact HNO.out j E (by omega) hE
        case measure => simp [intOf]; omega
    · obtain rfl : k = disks.length := by omega
      have rL : ∀ (j : Nat) (z : Value), [.string ⟨#[]⟩, .int .u64 0, .int .i64 0, .int .i64 0, .bool false, .bool false, .slice none 0 0][j]? = some z → wr.cell? ⟨w.heap.size + 1, j, none⟩ = some z := fun j z hz => by
        simp only [World.cell?, hR]
        simpa using hz
      clear r0
      have r0 := rL 0 _ rfl
      have r1 := rL 1 _ rfl
      have r2 := rL 2 _ rfl
      have r3 := rL 3 _ rfl
      have r4 := rL 4 _ rfl
      have r5 := rL 5 _ rfl
      have r6 := rL 6 _ rfl
      have rf : ∀ i, wr.frozen? ⟨w.heap.size + 1, i, none⟩ = false := fun i => by simp [World.frozen?, hR]
      clear rL hR
      go_wp2
      refine bodyPost_ret (v := .tuple #[.agg #[.string ⟨#[]⟩, .int .u64 0, .int .i64 0, .int .i64 0, .bool false, .bool false, .slice none 0 0], .bool false]) (by simp [results, Try.results60, go_sem, r0, r1, r2, r3, r4, r5, r6]) rfl ⟨?_, ?_⟩
      · have hL : ∀ (V : World) (o : Nat) (z : Value), Below w.heap.size w V → Below w.heap.size w (V.setCell ⟨w.heap.size + 1, o, none⟩ z) := fun V o z q => q.setCell (p := ⟨w.heap.size + 1, o, none⟩) (by show w.heap.size ≤ w.heap.size + 1; omega) z
        exact hL _ _ _ (hL _ _ _ (hL _ _ _ (hL _ _ _ (hL _ _ _ (hL _ _ _ (hL _ _ _ hB))))))
      · rw [show findD disks nm = none from find_none HNO.out]

end Go.Proofs.Yteengifhndmjeaa
