/- space.Owner. -/
import Derived.Test.YteengifhndmjeaaSpN
import Derived.Test.YteengifhndmjeaaSpD
import Derived.BigQuiet
import Derived.WalkMore
namespace Go.Proofs.Yteengifhndmjeaa
open Go.RowKit Go.Shelf
attribute [local go_sem] Oper.semAt_some

def ownerR (disks : List DiskM) (vols : List VolM) (nm : ByteArray) (ex : Int) : ByteArray × Bool := match findD disks nm with
  | none => (⟨#[]⟩, false)
  | some D => if 0 ≤ ex ∧ ex < D.extents then ownRes vols nm ex else (⟨#[]⟩, false)

set_option maxRecDepth 100000 in
set_option maxHeartbeats 8000000 in
theorem Owner_any {ok : Nat → Prop} (name : ByteArray) (id seq ext nx : Int) (tp dp vp hp : Option Addr) (tl tc dc vc hl hc : Nat) (disks : List DiskM) (vols : List VolM) (nm : ByteArray) (ex : Int) (w : World) (hr : RdS vDisk 7 ok w [.slice dp disks.length dc] disks) (hd : disks.length ≤ 1000) (htg : ∀ D ∈ disks, D.tags.length ≤ 1000)
    (hv : RdS vVol 6 ok w [.slice vp vols.length vc] vols) (hvl : vols.length ≤ 1000) (ht : TameV vols) :
    Calls Try.prog 37 #[.agg #[.string name, .int .u64 id, .int .i64 seq, .int .i64 ext, .int .i64 nx, .slice tp tl tc, .slice dp disks.length dc, .slice vp vols.length vc, .slice hp hl hc], .string nm, .int .i64 ex] w fun e w' => e = .returned (.tuple #[.string (ownerR disks vols nm ex).1, .bool (ownerR disks vols nm ex).2]) ∧ Below w.heap.size w w' := by
  refine callsIn_wide (n := 3) |>.1 ?_
  refine callsIn_of_wp_marks Try.func37 rfl trivial ?_ rfl
  simp only [Try.ntmps37, List.size_toArray, List.length_cons, List.length_nil, Nat.reduceAdd, Nat.reduceSub, Array.replicate_succ, Array.replicate_zero, List.push_toArray, List.append_toArray, List.nil_append, List.cons_append]
  refine wpIn_wide.2 ?_
  have hB2 : Below w.heap.size w (((w.alloc (.cells #[.string name, .int .u64 id, .int .i64 seq, .int .i64 ext, .int .i64 nx, .slice tp tl tc, .slice dp disks.length dc, .slice vp vols.length vc, .slice hp hl hc] 52)).alloc (.cells #[.string nm] 9)).alloc (.cells #[.int .i64 ex] 3)) := (((Below.refl _ _).alloc (Nat.le_refl _) _).alloc (by simp <;> omega) _).alloc (by simp <;> omega) _
  have hz2 : (((w.alloc (.cells #[.string name, .int .u64 id, .int .i64 seq, .int .i64 ext, .int .i64 nx, .slice tp tl tc, .slice dp disks.length dc, .slice vp vols.length vc, .slice hp hl hc] 52)).alloc (.cells #[.string nm] 9)).alloc (.cells #[.int .i64 ex] 3)).heap.size = w.heap.size + 3 := by simp
  have hg2 : (((w.alloc (.cells #[.string name, .int .u64 id, .int .i64 seq, .int .i64 ext, .int .i64 nx, .slice tp tl tc, .slice dp disks.length dc, .slice vp vols.length vc, .slice hp hl hc] 52)).alloc (.cells #[.string nm] 9)).alloc (.cells #[.int .i64 ex] 3)).heap[w.heap.size]? = some (.cells #[.string name, .int .u64 id, .int .i64 seq, .int .i64 ext, .int .i64 nx, .slice tp tl tc, .slice dp disks.length dc, .slice vp vols.length vc, .slice hp hl hc] 52 (0, 0)) := (Below.heap_alloc _ _ _ (by simp <;> omega)).trans ((Below.heap_alloc _ _ _ (by simp <;> omega)).trans (heap_alloc_new w _))
  have hn2 : (((w.alloc (.cells #[.string name, .int .u64 id, .int .i64 seq, .int .i64 ext, .int .i64 nx, .slice tp tl tc, .slice dp disks.length dc, .slice vp vols.length vc, .slice hp hl hc] 52)).alloc (.cells #[.string nm] 9)).alloc (.cells #[.int .i64 ex] 3)).heap[w.heap.size + 1]? = some (.cells #[.string nm] 9 (0, 0)) := by
    have := heap_alloc_new (w.alloc (.cells #[.string name, .int .u64 id, .int .i64 seq, .int .i64 ext, .int .i64 nx, .slice tp tl tc, .slice dp disks.length dc, .slice vp vols.length vc, .slice hp hl hc] 52)) (.cells #[.string nm] 9)
    rw [World.size_alloc] at this
    exact (Below.heap_alloc _ _ _ (by simp <;> omega)).trans this
  have hx2 : (((w.alloc (.cells #[.string name, .int .u64 id, .int .i64 seq, .int .i64 ext, .int .i64 nx, .slice tp tl tc, .slice dp disks.length dc, .slice vp vols.length vc, .slice hp hl hc] 52)).alloc (.cells #[.string nm] 9)).alloc (.cells #[.int .i64 ex] 3)).heap[w.heap.size + 1 + 1]? = some (.cells #[.int .i64 ex] 3 (0, 0)) := by
    have := heap_alloc_new ((w.alloc (.cells #[.string name, .int .u64 id, .int .i64 seq, .int .i64 ext, .int .i64 nx, .slice tp tl tc, .slice dp disks.length dc, .slice vp vols.length vc, .slice hp hl hc] 52)).alloc (.cells #[.string nm] 9)) (.cells #[.int .i64 ex] 3)
    rw [World.size_alloc, World.size_alloc] at this
    exact this
  have gL : ∀ (j : Nat) (z : Value), [.string name, .int .u64 id, .int .i64 seq, .int .i64 ext, .int .i64 nx, .slice tp tl tc, .slice dp disks.length dc, .slice vp vols.length vc, .slice hp hl hc][j]? = some z → (((w.alloc (.cells #[.string name, .int .u64 id, .int .i64 seq, .int .i64 ext, .int .i64 nx, .slice tp tl tc, .slice dp disks.length dc, .slice vp vols.length vc, .slice hp hl hc] 52)).alloc (.cells #[.string nm] 9)).alloc (.cells #[.int .i64 ex] 3)).cell? ⟨w.heap.size, j, none⟩ = some z := fun j z hz => by
    simp only [World.cell?, hg2]
    simpa using hz
  have y0 := gL 0 _ rfl
  have y1 := gL 1 _ rfl
  have y2 := gL 2 _ rfl
  have y3 := gL 3 _ rfl
  have y4 := gL 4 _ rfl
  have y5 := gL 5 _ rfl
  have y6 := gL 6 _ rfl
  have y7 := gL 7 _ rfl
  have y8 := gL 8 _ rfl
  have yn : (((w.alloc (.cells #[.string name, .int .u64 id, .int .i64 seq, .int .i64 ext, .int .i64 nx, .slice tp tl tc, .slice dp disks.length dc, .slice vp vols.length vc, .slice hp hl hc] 52)).alloc (.cells #[.string nm] 9)).alloc (.cells #[.int .i64 ex] 3)).cell? ⟨w.heap.size + 1, 0, none⟩ = some (.string nm) := by
    simp only [World.cell?, hn2]
    rfl
  clear gL
  have HR := Lib.hid hr; clear hr
  have HV := Lib.hid hv; clear hv
  have HT := Lib.hid ht; clear ht
  have HTG := Lib.hid htg; clear htg
  have HG2 := Lib.hid hg2; clear hg2
  have HN2 := Lib.hid hn2; clear hn2
  have HX2 := Lib.hid hx2; clear hx2
  have HB2 := Lib.hid hB2; clear hB2
  have HZ2 := Lib.hid hz2; clear hz2
  go_wp2_with fail
  refine wp_scope_straight ?_
  go_wp2_with fail
  clear y0 y1 y2 y3 y4 y5 y6 y7 y8 yn
  generalize hW2 : World.alloc (World.alloc (World.alloc w _) _) _ = W2 at *
  clear hW2
  refine (Disk_any (ok := ok) name id seq ext nx tp dp vp hp tl tc dc vols.length vc hl hc disks nm W2 ((RdS.moves vDisk.moves).mv ⟨HB2.out.size, fun b hb ho => ⟨ho, HB2.out.block b hb⟩⟩ HR.out) hd HTG.out).mono ?_
  rintro e w3 ⟨hb3, hm⟩
  have hg3 := (hb3.block _ (lt_of_block HG2.out)).trans HG2.out
  have hn3 := (hb3.block _ (lt_of_block HN2.out)).trans HN2.out
  have hx3 := (hb3.block _ (lt_of_block HX2.out)).trans HX2.out
  have HB3 := Lib.hid (HB2.out.trans (hb3.mono HB2.out.size))
  have hz3 : w.heap.size + 3 ≤ w3.heap.size := by have := hb3.size; have := HZ2.out; omega
  clear hb3
  cases hf : findD disks nm with
  | none =>
    rw [hf] at hm
    obtain rfl := hm
    have HBZ := Lib.hid (HB3.out.trans ((below_alloc w3 (.cells #[.string ⟨#[]⟩, .int .u64 0, .int .i64 0, .int .i64 0, .bool false, .bool false, .slice none 0 0] 59)).mono HB3.out.size))
    have HF := Lib.hid hf
    have e0 : (w3.alloc (.cells #[.string ⟨#[]⟩, .int .u64 0, .int .i64 0, .int .i64 0, .bool false, .bool false, .slice none 0 0] 59)).cell? ⟨w.heap.size + 1 + 1, 0, none⟩ = some (.int .i64 ex) := by
      simp only [World.cell?, (Below.heap_alloc w3 _ _ (lt_of_block hx3)).trans hx3]
      rfl
    clear hg3 hn3 hx3 hf
    go_wp2
    exact ⟨.tuple #[.string ⟨#[]⟩, .bool false], by simp [results, Try.results37, go_sem], by unfold ownerR; rw [HF.out], HBZ.out⟩
  | some D =>
    rw [hf] at hm
    obtain ⟨p3, n3, c3, rfl⟩ := hm
    have HF := Lib.hid hf; clear hf
    have hb4 : Below w3.heap.size w3 (w3.alloc (.cells #[.string D.name, .int .u64 D.id, .int .i64 D.first, .int .i64 D.extents, .bool D.closed, .bool D.missing, .slice p3 n3 c3] 59)) := below_alloc _ _
    have HB4 := Lib.hid (HB3.out.trans (hb4.mono HB3.out.size))
    have HG4 := Lib.hid ((hb4.block _ (lt_of_block hg3)).trans hg3)
    have HN4 := Lib.hid ((hb4.block _ (lt_of_block hn3)).trans hn3)
    have hx4 := (hb4.block _ (lt_of_block hx3)).trans hx3
    have HX4 := Lib.hid hx4
    have HZ4 : Hid (w.heap.size + 3 < (w3.alloc (.cells #[.string D.name, .int .u64 D.id, .int .i64 D.first, .int .i64 D.extents, .bool D.closed, .bool D.missing, .slice p3 n3 c3] 59)).heap.size) := Lib.hid (by simp; omega)
    have e0 : (w3.alloc (.cells #[.string D.name, .int .u64 D.id, .int .i64 D.first, .int .i64 D.extents, .bool D.closed, .bool D.missing, .slice p3 n3 c3] 59)).cell? ⟨w.heap.size + 1 + 1, 0, none⟩ = some (.int .i64 ex) := by
      simp only [World.cell?, hx4]
      rfl
    clear hg3 hn3 hx3 hx4 hb4
    by_cases hneg : ex < 0
    · have HNG := Lib.hid hneg
      go_wp2
      exact ⟨.tuple #[.string ⟨#[]⟩, .bool false], by simp [results, Try.results37, go_sem], by unfold ownerR; rw [HF.out]; dsimp only; rw [if_neg (fun q => by have := HNG.out; omega)], HB4.out⟩
    · by_cases hge : D.extents ≤ ex
      · have HNG := Lib.hid hge
        go_wp2
        exact ⟨.tuple #[.string ⟨#[]⟩, .bool false], by simp [results, Try.results37, go_sem], by unfold ownerR; rw [HF.out]; dsimp only; rw [if_neg (fun q => by have := HNG.out; omega)], HB4.out⟩
      · have HS4 : Hid ((w3.alloc (.cells #[.string D.name, .int .u64 D.id, .int .i64 D.first, .int .i64 D.extents, .bool D.closed, .bool D.missing, .slice p3 n3 c3] 59)).heap.size = w3.heap.size + 1) := Lib.hid (by simp)
        have hR : ownerR disks vols nm ex = ownRes vols nm ex := by
          unfold ownerR
          rw [HF.out]
          dsimp only
          rw [if_pos ⟨by omega, by omega⟩]
        have HRR := Lib.hid hR; clear hR
        have gL : ∀ W4 : World, W4.heap[w.heap.size]? = some (.cells #[.string name, .int .u64 id, .int .i64 seq, .int .i64 ext, .int .i64 nx, .slice tp tl tc, .slice dp disks.length dc, .slice vp vols.length vc, .slice hp hl hc] 52 (0, 0)) → ∀ c d : Array Value, ((W4.alloc (.cells c 9)).alloc (.cells d 4)).cell? ⟨w.heap.size, 7, none⟩ = some (.slice vp vols.length vc) := fun W4 hh c d => by
          simp only [World.cell?, (Below.heap_alloc (W4.alloc (.cells c 9)) _ _ (Nat.lt_trans (lt_of_block hh) (by simp <;> omega))).trans ((Below.heap_alloc W4 _ _ (lt_of_block hh)).trans hh)]
          rfl
        have y7 := gL _ HG4.out #[.string ⟨#[]⟩] #[.bool false]
        clear gL
        go_wp2
        refine wp_label ?_
        go_wp2
        clear y7 e0
        generalize hW4 : World.alloc w3 _ = W4 at *
        clear hW4
        have hz4 := HZ4.out
        have hs4 := HS4.out
        have b6 : Below W4.heap.size W4 ((W4.alloc (.cells #[.string ⟨#[]⟩] 9)).alloc (.cells #[.bool false] 4)) := ((Below.refl _ _).alloc (Nat.le_refl _) _).alloc (by simp <;> omega) _
        have k10 : ((W4.alloc (.cells #[.string ⟨#[]⟩] 9)).alloc (.cells #[.bool false] 4)).heap[w3.heap.size + 1]? = some (.cells #[.string ⟨#[]⟩] 9 (0, 0)) := by rw [← hs4]; exact (Below.heap_alloc _ _ _ (by simp <;> omega)).trans (heap_alloc_new W4 _)
        have k11 : ((W4.alloc (.cells #[.string ⟨#[]⟩] 9)).alloc (.cells #[.bool false] 4)).heap[w3.heap.size + 1 + 1]? = some (.cells #[.bool false] 4 (0, 0)) := by
          rw [← hs4]
          have := heap_alloc_new (W4.alloc (.cells #[.string ⟨#[]⟩] 9)) (.cells #[.bool false] 4)
          rw [World.size_alloc] at this
          exact this
        have h6 : ((W4.alloc (.cells #[.string ⟨#[]⟩] 9)).alloc (.cells #[.bool false] 4)).heap.size = W4.heap.size + 2 := by simp
        have hBB := HB4.out.trans (b6.mono HB4.out.size)
        have k4 := (b6.block _ (lt_of_block HN4.out)).trans HN4.out
        have k5 := (b6.block _ (lt_of_block HX4.out)).trans HX4.out
        generalize hW6 : World.alloc (World.alloc W4 _) _ = W6 at *
        clear hW6
        refine owner_loop (ok := ok) _ _ _ _ _ _ _ _ _ _ _ _ _ _ _ _ _ _ _ _ _ _ _ _ _ _ _ _ _ _ _ _ _ _ _ _ _ _ _ _ _ _ _ _ _ _ _ _ _ _ _ _ _ W6 w.heap.size (w.heap.size + 1) (w.heap.size + 1 + 1) (w3.heap.size + 1) (w3.heap.size + 1 + 1) vp vc vols nm ex ((RdS.moves vVol.moves).mv ⟨hBB.size, fun b hb ho => ⟨ho, hBB.block b hb⟩⟩ HV.out) hvl HT.out k4 k5 k10 k11 (by omega) hBB.size (by omega) (by omega) ?_
        intro ds W' u13 u14 u36 u37 u38 u39 u40 u41 u42 u43 u44 u45 u46 u47 u48 u49 u50 u51 u52 u53 u54 u55 u56 hO
        have l10 : W'.cell? ⟨w3.heap.size + 1, 0, none⟩ = some (.string (ownRes vols nm ex).1) := by simp [World.cell?, hO.b10]
        have l11 : W'.cell? ⟨w3.heap.size + 1 + 1, 0, none⟩ = some (.bool (ownRes vols nm ex).2) := by simp [World.cell?, hO.b11]
        have HO := Lib.hid hO; clear hO
        have HBB := Lib.hid hBB; clear hBB
        clear b6 k10 k11 k4 k5
        go_wp2
        go_quiet (fail)
        go_wp2
        refine leaves_list (fun V => Below w.heap.size w V) ds _ HO.out.nd (fun D hD => (HO.out.df D hD).2) (bdrewN (HBB.out.trans HO.out.bl) _) (fun V D hD hK hV => hV.trans (belowK_b (w := w) (Nat.le_refl _) V D _ _ (by have := (HO.out.df D hD).1; have := HBB.out.size; omega) hK rfl rfl)) (fun V hV => ?_)
        exact ⟨.tuple #[.string (ownRes vols nm ex).1, .bool (ownRes vols nm ex).2], by simp [results, Try.results37, go_sem], by rw [HRR.out], hV⟩

end Go.Proofs.Yteengifhndmjeaa
