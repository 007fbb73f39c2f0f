/- space.Used. space.Free. -/
import Derived.Test.YteengifhndmjeaaSpD
import Derived.Test.YteengifhndmjeaaSpCa
import Derived.Test.YteengifhndmjeaaRanF
import Derived.RangeFuncNested
import Derived.RangeFuncBound
import Derived.RangeFuncCalls
import Derived.RangeFuncLeaves
import Derived.Shelf.Abstract
import Derived.Shelf.RegionOpen
import Derived.WalkKit
import Derived.OwnWalkIn
import Derived.TacticsInMore
import Derived.LoopNIn
import Derived.LoopIn
import Derived.Maps.AppendAt
namespace Go.Proofs.Yteengifhndmjeaa
open Go.RowKit Go.Shelf
attribute [local go_sem] Oper.semAt_some

/-- A disk's pieces, cut to its extents, as ranges. -/
def usedR (nm : ByteArray) (ext : Int) (ps : List PieceM) : List (Int × Int) := ps.filterMap fun p => if p.disk = nm ∧ 0 ≤ p.start ∧ p.start < ext ∧ 0 < p.len then some (p.start, min p.len (ext - p.start)) else none

theorem usedR_hit {nm : ByteArray} {ext : Int} (ps : List PieceM) {x : PieceM} (h : x.disk = nm ∧ 0 ≤ x.start ∧ x.start < ext ∧ 0 < x.len) : usedR nm ext (ps ++ [x]) = usedR nm ext ps ++ [(x.start, min x.len (ext - x.start))] := by
  simp [usedR, List.filterMap_append, h]
theorem usedR_miss {nm : ByteArray} {ext : Int} (ps : List PieceM) {x : PieceM} (h : ¬ (x.disk = nm ∧ 0 ≤ x.start ∧ x.start < ext ∧ 0 < x.len)) : usedR nm ext (ps ++ [x]) = usedR nm ext ps := by
  unfold usedR
  rw [List.filterMap_append, List.filterMap_cons, if_neg h]
  simp
theorem usedR_len (nm : ByteArray) (ext : Int) (ps : List PieceM) : (usedR nm ext ps).length ≤ ps.length := List.length_filterMap_le _ _

theorem usedR_bd {nm : ByteArray} {ext : Int} {ps : List PieceM} : ∀ p ∈ usedR nm ext ps, 0 ≤ p.1 ∧ 0 < p.2 ∧ p.1 + p.2 ≤ ext := by
  intro p hp
  unfold usedR at hp
  obtain ⟨x, _, hx⟩ := List.mem_filterMap.1 hp
  by_cases c : x.disk = nm ∧ 0 ≤ x.start ∧ x.start < ext ∧ 0 < x.len
  · rw [if_pos c] at hx
    injection hx with hx
    subst hx
    dsimp only
    omega
  · rw [if_neg c] at hx
    cases hx
theorem usedR_val {nm : ByteArray} {ext : Int} {ps : List PieceM} (h : ext ≤ 1000000) : valB (usedR nm ext ps) = true := by
  unfold valB
  rw [List.all_eq_true]
  intro p hp
  have := usedR_bd p hp
  simp [vldB]
  omega

def UsedP (disks : List DiskM) (vols : List VolM) (nm : ByteArray) (w : World) (e : Ending) (w' : World) : Prop :=
  match findD disks nm with
  | none => e = .returned (.tuple #[.slice none 0 0, .int .i64 12]) ∧ Below w.heap.size w w'
  | some D => RetNF2 w (Mem (usedR nm D.extents (pieces vols))) (usedR nm D.extents (pieces vols)).length e w'

set_option maxRecDepth 100000 in
set_option maxHeartbeats 4000000 in
theorem Used_any {ok : Nat → Prop} (name : ByteArray) (id seq ext nx : Int) (tp dp vp hp : Option Addr) (tl tc dc vc hl hc : Nat) (disks : List DiskM) (vols : List VolM) (nm : ByteArray) (w : World) (hr : RdS vDisk 7 ok w [.slice dp disks.length dc] disks) (hd : disks.length ≤ 1000) (htg : ∀ D ∈ disks, D.tags.length ≤ 1000) (hde : ∀ D ∈ disks, 0 ≤ D.extents ∧ D.extents ≤ 1000000)
    (hv : RdS vVol 6 ok w [.slice vp vols.length vc] vols) (hvl : vols.length ≤ 1000) (ht : TameV vols) (hps : ∀ p ∈ pieces vols, 0 ≤ p.start ∧ p.start ≤ 1000000) (hpn : (pieces vols).length ≤ 100000) :
    Calls Try.prog 33 #[.agg #[.string name, .int .u64 id, .int .i64 seq, .int .i64 ext, .int .i64 nx, .slice tp tl tc, .slice dp disks.length dc, .slice vp vols.length vc, .slice hp hl hc], .string nm] w (UsedP disks vols nm w) := by
  refine callsIn_wide (n := 3) |>.1 ?_
  refine callsIn_of_wp_marks Try.func33 rfl trivial ?_ rfl
  simp only [Try.ntmps33, List.size_toArray, List.length_cons, List.length_nil, Nat.reduceAdd, Nat.reduceSub, Array.replicate_succ, Array.replicate_zero, List.push_toArray, List.append_toArray, List.nil_append, List.cons_append]
  refine wpIn_wide.2 ?_
  have hB2 : Below w.heap.size w ((w.alloc (.cells #[.string name, .int .u64 id, .int .i64 seq, .int .i64 ext, .int .i64 nx, .slice tp tl tc, .slice dp disks.length dc, .slice vp vols.length vc, .slice hp hl hc] 52)).alloc (.cells #[.string nm] 9)) := ((Below.refl _ _).alloc (Nat.le_refl _) _).alloc (by simp) _
  have hz2 : ((w.alloc (.cells #[.string name, .int .u64 id, .int .i64 seq, .int .i64 ext, .int .i64 nx, .slice tp tl tc, .slice dp disks.length dc, .slice vp vols.length vc, .slice hp hl hc] 52)).alloc (.cells #[.string nm] 9)).heap.size = w.heap.size + 2 := by simp
  have hg2 : ((w.alloc (.cells #[.string name, .int .u64 id, .int .i64 seq, .int .i64 ext, .int .i64 nx, .slice tp tl tc, .slice dp disks.length dc, .slice vp vols.length vc, .slice hp hl hc] 52)).alloc (.cells #[.string nm] 9)).heap[w.heap.size]? = some (.cells #[.string name, .int .u64 id, .int .i64 seq, .int .i64 ext, .int .i64 nx, .slice tp tl tc, .slice dp disks.length dc, .slice vp vols.length vc, .slice hp hl hc] 52 (0, 0)) := (Below.heap_alloc _ _ _ (by simp)).trans (heap_alloc_new w _)
  have hn2 : ((w.alloc (.cells #[.string name, .int .u64 id, .int .i64 seq, .int .i64 ext, .int .i64 nx, .slice tp tl tc, .slice dp disks.length dc, .slice vp vols.length vc, .slice hp hl hc] 52)).alloc (.cells #[.string nm] 9)).heap[w.heap.size + 1]? = some (.cells #[.string nm] 9 (0, 0)) := by
    have := heap_alloc_new (w.alloc (.cells #[.string name, .int .u64 id, .int .i64 seq, .int .i64 ext, .int .i64 nx, .slice tp tl tc, .slice dp disks.length dc, .slice vp vols.length vc, .slice hp hl hc] 52)) (.cells #[.string nm] 9)
    rw [World.size_alloc] at this
    exact this
  have HR := Lib.hid hr; clear hr
  have HV := Lib.hid hv; clear hv
  have HT := Lib.hid ht; clear ht
  have HTG := Lib.hid htg; clear htg
  have HDE := Lib.hid hde; clear hde
  have HPS := Lib.hid hps; clear hps
  have HG2 := Lib.hid hg2; clear hg2
  have HN2 := Lib.hid hn2; clear hn2
  have HB2 := Lib.hid hB2; clear hB2
  have HZ2 := Lib.hid hz2; clear hz2
  go_wp2_with fail
  generalize hW2 : World.alloc (World.alloc w _) _ = W2 at *
  clear hW2
  refine (Disk_any (ok := ok) name id seq ext nx tp dp vp hp tl tc dc vols.length vc hl hc disks nm W2 ((RdS.moves vDisk.moves).mv ⟨HB2.out.size, fun b hb ho => ⟨ho, HB2.out.block b hb⟩⟩ HR.out) hd HTG.out).mono ?_
  rintro e w3 ⟨hb3, hm⟩
  have hg3 := (hb3.block _ (lt_of_block HG2.out)).trans HG2.out
  have hn3 := (hb3.block _ (lt_of_block HN2.out)).trans HN2.out
  have HB3 := Lib.hid (HB2.out.trans (hb3.mono HB2.out.size))
  have hz3 : w.heap.size + 2 ≤ w3.heap.size := by have := hb3.size; have := HZ2.out; omega
  clear hb3
  unfold UsedP
  cases hf : findD disks nm with
  | none =>
    rw [hf] at hm
    obtain rfl := hm
    clear hg3 hn3
    have HBZ := Lib.hid (HB3.out.trans ((below_alloc w3 (.cells #[.string ⟨#[]⟩, .int .u64 0, .int .i64 0, .int .i64 0, .bool false, .bool false, .slice none 0 0] 59)).mono HB3.out.size))
    go_wp2
    exact ⟨.tuple #[.slice none 0 0, .int .i64 12], by simp [results, Try.results33, go_sem], by unfold UsedP; rw [hf]; exact ⟨rfl, HBZ.out⟩⟩
  | some D =>
    rw [hf] at hm
    obtain ⟨p3, n3, c3, rfl⟩ := hm
    have hb4 : Below w3.heap.size w3 ((w3.alloc (.cells #[.string D.name, .int .u64 D.id, .int .i64 D.first, .int .i64 D.extents, .bool D.closed, .bool D.missing, .slice p3 n3 c3] 59)).alloc (.cells #[.slice none 0 0] 22)) := ((Below.refl _ _).alloc (Nat.le_refl _) _).alloc (by simp) _
    have hz4 : ((w3.alloc (.cells #[.string D.name, .int .u64 D.id, .int .i64 D.first, .int .i64 D.extents, .bool D.closed, .bool D.missing, .slice p3 n3 c3] 59)).alloc (.cells #[.slice none 0 0] 22)).heap.size = w3.heap.size + 2 := by simp
    have hd4 : ((w3.alloc (.cells #[.string D.name, .int .u64 D.id, .int .i64 D.first, .int .i64 D.extents, .bool D.closed, .bool D.missing, .slice p3 n3 c3] 59)).alloc (.cells #[.slice none 0 0] 22)).heap[w3.heap.size]? = some (.cells #[.string D.name, .int .u64 D.id, .int .i64 D.first, .int .i64 D.extents, .bool D.closed, .bool D.missing, .slice p3 n3 c3] 59 (0, 0)) := (Below.heap_alloc _ _ _ (by simp)).trans (heap_alloc_new w3 _)
    have hl4 : ((w3.alloc (.cells #[.string D.name, .int .u64 D.id, .int .i64 D.first, .int .i64 D.extents, .bool D.closed, .bool D.missing, .slice p3 n3 c3] 59)).alloc (.cells #[.slice none 0 0] 22)).heap[w3.heap.size + 1]? = some (.cells #[.slice none 0 0] 22 (0, 0)) := by
      have := heap_alloc_new (w3.alloc (.cells #[.string D.name, .int .u64 D.id, .int .i64 D.first, .int .i64 D.extents, .bool D.closed, .bool D.missing, .slice p3 n3 c3] 59)) (.cells #[.slice none 0 0] 22)
      rw [World.size_alloc] at this
      exact this
    have hg4 := (hb4.block _ (lt_of_block hg3)).trans hg3
    have HN4 := Lib.hid ((hb4.block _ (lt_of_block hn3)).trans hn3)
    have hgL : ∀ (j : Nat) (z : Value), [.string name, .int .u64 id, .int .i64 seq, .int .i64 ext, .int .i64 nx, .slice tp tl tc, .slice dp disks.length dc, .slice vp vols.length vc, .slice hp hl hc][j]? = some z → ((w3.alloc (.cells #[.string D.name, .int .u64 D.id, .int .i64 D.first, .int .i64 D.extents, .bool D.closed, .bool D.missing, .slice p3 n3 c3] 59)).alloc (.cells #[.slice none 0 0] 22)).cell? ⟨w.heap.size, j, none⟩ = some z := fun j z hz => by
      simp only [World.cell?, hg4]
      simpa using hz
    have y0 := hgL 0 _ rfl
    have y1 := hgL 1 _ rfl
    have y2 := hgL 2 _ rfl
    have y3 := hgL 3 _ rfl
    have y4 := hgL 4 _ rfl
    have y5 := hgL 5 _ rfl
    have y6 := hgL 6 _ rfl
    have y7 := hgL 7 _ rfl
    have y8 := hgL 8 _ rfl
    have HB4 := Lib.hid (HB3.out.trans (hb4.mono HB3.out.size))
    have HD4 := Lib.hid hd4
    have HL4 := Lib.hid hl4
    have HZ4 := Lib.hid hz4
    clear hgL hb4 hz4 hd4 hl4 hg4 hg3 hn3
    go_wp2_with fail
    clear y0 y1 y2 y3 y4 y5 y6 y7 y8
    generalize hW4 : World.alloc (World.alloc w3 _) _ = W4 at *
    clear hW4
    refine (All_any name id seq ext nx tp dp vp hp tl tc disks.length dc vols.length vc hl hc W4).mono ?_
    rintro e w5 ⟨rfl, rfl⟩
    have hb5 := below_alloc W4 (.cells #[.string name, .int .u64 id, .int .i64 seq, .int .i64 ext, .int .i64 nx, .slice tp tl tc, .slice dp disks.length dc, .slice vp vols.length vc, .slice hp hl hc] 52)
    have HG5 := Lib.hid (heap_alloc_new W4 (.cells #[.string name, .int .u64 id, .int .i64 seq, .int .i64 ext, .int .i64 nx, .slice tp tl tc, .slice dp disks.length dc, .slice vp vols.length vc, .slice hp hl hc] 52))
    have HD5 := Lib.hid ((hb5.block _ (lt_of_block HD4.out)).trans HD4.out)
    have HL5 := Lib.hid ((hb5.block _ (lt_of_block HL4.out)).trans HL4.out)
    have HN5 := Lib.hid ((hb5.block _ (lt_of_block HN4.out)).trans HN4.out)
    have HB5 := Lib.hid (HB4.out.trans (hb5.mono HB4.out.size))
    have HZ5 : Hid (W4.heap.size < (W4.alloc (.cells #[.string name, .int .u64 id, .int .i64 seq, .int .i64 ext, .int .i64 nx, .slice tp tl tc, .slice dp disks.length dc, .slice vp vols.length vc, .slice hp hl hc] 52)).heap.size) := Lib.hid (by simp)
    have hDE := HDE.out D (List.mem_of_find?_eq_some hf)
    clear hb5
    go_wp2
    generalize hW5 : World.alloc W4 _ = W5 at *
    have hzz := HZ4.out
    generalize hBg : W4.heap.size = Bg at *
    generalize hBd : w3.heap.size = Bd at *
    generalize hB1 : W5.heap.size = B1 at *
    clear hW5 HD4 HL4 HN4 HB4 HZ4
    have hz5 := HZ5.out
    have hzb : Bd + 2 ≤ Bg := by omega
    clear hzz hBd hBg
    refine (wpIn_wide (n := 3)).1 ?_
    refine wpIn_rangeFunc_ownH (F := Fence.wide) rfl (by omega) (gf := 77) (lb := #[.pointer (some ⟨Bg, 0, none⟩)]) rfl trivial (enters_of Try.func77 (by kernel_rfl) rfl)
      (all1_stops (3 - 1) w.heap.size Bg W5 vp vc vols (by simp [World.cell?, HG5.out]) (by omega) (by omega) ((RdS.moves vVol.moves).mv ⟨HB5.out.size, fun b hb ho => ⟨hb, HB5.out.block b hb⟩⟩ HV.out) HT.out hvl) KpT.trans
      (fun W l o o' hl h h1 h2 => ⟨belowK_b (w := W5) (by omega) W l o o' hl h h1 h2, fun k cs t z e _ => (grownBy_putObj' W l o').block k (lt_of_block e) (fun q => by injection q with q; subst q; rw [e] at h; injection h with h; subst h; cases h1)⟩) (Below.refl _ _) (fun _ => rfl)
      (fun pre W => ∃ v, W.heap[Bd + 1]? = some (.cells #[v] 22 (0, 0)) ∧ OwnR W B1 v (usedR nm D.extents pre) ∧ W.heap[Bd]? = some (.cells #[.string D.name, .int .u64 D.id, .int .i64 D.first, .int .i64 D.extents, .bool D.closed, .bool D.missing, .slice p3 n3 c3] 59 (0, 0)) ∧ W.heap[w.heap.size + 1]? = some (.cells #[.string nm] 9 (0, 0)) ∧ Below w.heap.size w W ∧ B1 ≤ W.heap.size)
      (fun _ _ _ => False) ?own (fun _ _ _ _ _ h _ _ => h) ?init
      (fun x a' W => ∃ Bx, W.heap[Bx]? = some (.cells #[.string x.vol, .string x.disk, .int .i64 x.start, .int .i64 x.len] 96 (0, 0)) ∧ B1 ≤ Bx ∧ a' = ⟨#[.agg #[.string name, .int .u64 id, .int .i64 seq, .int .i64 ext, .int .i64 nx, .slice tp tl tc, .slice dp disks.length dc, .slice vp vols.length vc, .slice hp hl hc], .string nm, .pointer (some ⟨w.heap.size, 0, none⟩), .pointer (some ⟨w.heap.size + 1, 0, none⟩), .slice none 0 0, .int .i64 0, .pointer (some ⟨Bd, 0, none⟩), .bool true, .pointer (some ⟨Bd + 1, 0, none⟩), .pointer (some ⟨Bx, 0, none⟩), .tuple #[.agg #[.string D.name, .int .u64 D.id, .int .i64 D.first, .int .i64 D.extents, .bool D.closed, .bool D.missing, .slice p3 n3 c3], .bool true], .agg #[.string name, .int .u64 id, .int .i64 seq, .int .i64 ext, .int .i64 nx, .slice tp tl tc, .slice dp disks.length dc, .slice vp vols.length vc, .slice hp hl hc], .string nm, .tuple #[.agg #[.string D.name, .int .u64 D.id, .int .i64 D.first, .int .i64 D.extents, .bool D.closed, .bool D.missing, .slice p3 n3 c3], .bool true], .agg #[.string D.name, .int .u64 D.id, .int .i64 D.first, .int .i64 D.extents, .bool D.closed, .bool D.missing, .slice p3 n3 c3], .bool true, .bool true, .bool false, .agg #[.string name, .int .u64 id, .int .i64 seq, .int .i64 ext, .int .i64 nx, .slice tp tl tc, .slice dp disks.length dc, .slice vp vols.length vc, .slice hp hl hc], .func (.func 77) #[] #[.pointer (some ⟨Bg, 0, none⟩)], .agg #[.string x.vol, .string x.disk, .int .i64 x.start, .int .i64 x.len], undef, undef, undef, undef, undef, undef, undef, undef, undef, undef, undef, undef, undef, undef, undef, undef, undef, undef, undef, undef, undef, undef, undef, undef, undef, undef, undef, undef, undef, undef, undef, undef, undef, undef, undef, undef, undef, undef, undef], []⟩) ?ax ?assign ?body ?done ?stop
    case own =>
      rintro pre W W' row ⟨v, h1, h2, h3, h4, h5, h6⟩ hg hr
      exact ⟨v, keepC hg hr h1, keepR hg hr h2, keepC hg hr h3, keepC hg hr h4, h5.grown hg h5.size (fun k e => by have := (hr k e).1; omega), Nat.le_trans h6 hg.size⟩
    case init => exact ⟨.slice none 0 0, HL5.out, OwnR.nil _ _, HD5.out, HN5.out, HB5.out, by omega⟩
    case ax =>
      rintro x a' _ W W' row ⟨Bx, h1, h2, h3⟩ hg hr
      exact ⟨Bx, keepC hg hr h1, h2, h3⟩
    case assign =>
      rintro l pre x W K ⟨v, h1, h2, h3, h4, h5, h6⟩ hK
      have HI := Lib.hid (⟨h1, h2, h3, h4, h5, h6⟩ : _ ∧ _ ∧ _ ∧ _ ∧ _ ∧ _)
      clear h1 h2 h3 h4 h5
      have HK := Lib.hid hK; clear hK
      simp only [encP, List.zip_toArray, List.zip_cons_cons, List.zip_nil_right, List.foldl_toArray, List.foldl_cons, List.foldl_nil, List.setIfInBounds_toArray, List.set_cons_succ, List.set_cons_zero]
      gi_wp2
      have hI := HI.out
      have hbx := below_alloc W (.cells #[.string x.vol, .string x.disk, .int .i64 x.start, .int .i64 x.len] 96)
      refine HK.out _ _ ((KeepsOthers.alloc _ _).from _) (KpT.of_below hbx hI.2.2.2.2.1.size) ⟨v, (hbx.block _ (lt_of_block hI.1)).trans hI.1, World.ownsRow.alloc hI.2.1 _, (hbx.block _ (lt_of_block hI.2.2.1)).trans hI.2.2.1, (hbx.block _ (lt_of_block hI.2.2.2.1)).trans hI.2.2.2.1, hI.2.2.2.2.1.alloc hI.2.2.2.2.1.size _, Nat.le_trans h6 hbx.size⟩ ⟨W.heap.size, heap_alloc_new W _, h6, rfl⟩
    case body =>
      rintro l pre x a' W hl ⟨r, hr⟩ ⟨v, h1, h2, h3, h4, h5, h6⟩ ⟨Bx, hx, hBx, rfl⟩ hlt
      clear hr r
      have x1 : W.cell? ⟨Bx, 1, none⟩ = some (.string x.disk) := by simp [World.cell?, hx]
      have x2 : W.cell? ⟨Bx, 2, none⟩ = some (.int .i64 x.start) := by simp [World.cell?, hx]
      have x3 : W.cell? ⟨Bx, 3, none⟩ = some (.int .i64 x.len) := by simp [World.cell?, hx]
      have d3 : W.cell? ⟨Bd, 3, none⟩ = some (.int .i64 D.extents) := by simp [World.cell?, h3]
      have n0 : W.cell? ⟨w.heap.size + 1, 0, none⟩ = some (.string nm) := by simp [World.cell?, h4]
      have l0 : W.cell? ⟨Bd + 1, 0, none⟩ = some v := by simp [World.cell?, h1]
      have hwz := h5.size
      have HI := Lib.hid (⟨h1, h2, h3, h4, h5⟩ : _ ∧ _ ∧ _ ∧ _ ∧ _)
      clear h1 h2 h3 h4 h5 hx
      by_cases c1 : x.disk = nm
      · have e1 : (x.disk.toList == nm.toList) = true := by rw [c1]; simp
        by_cases c2 : 0 ≤ x.start
        · by_cases c3 : x.start < D.extents
          · by_cases c4 : 0 < x.len
            · have HC := Lib.hid (usedR_hit (ext := D.extents) pre ⟨c1, c2, c3, c4⟩)
              have hde1 := hDE.1
              have hde2 := hDE.2
              have hw : IntKind.i64.wrap (D.extents - x.start) = D.extents - x.start := IntWalk.i64_in _ (by omega)
              have hul := usedR_len nm D.extents pre
              have hlen : (usedR nm D.extents pre).length ≤ 100000 := by omega
              clear hul
              obtain ⟨i0, hi, hz0, hz1, hz2⟩ := info_parts infoR
              have HI0 := Lib.hid hi; clear hi
              have HI1 := Lib.hid hz0; clear hz0
              have HI2 := Lib.hid hz1; clear hz1
              have HI3 := Lib.hid hz2; clear hz2
              have HC1 := Lib.hid c1; clear c1
              gi_wp2_with (gi_at_builtin; refine stopApp ?_)
              refine Lib.hid ?_
              refine wpListIn_append_own _ rfl _ _ 22 rfl B1 36 i0 _ 2 16 Try.underlying22 HI0.out HI1.out HI2.out HI3.out rfl (by decide) v (usedR nm D.extents pre).length (cellsR (usedR nm D.extents pre)) rfl (World.ownsRow.alloc HI.out.2.1 _) ⟨W.heap.size, 0, none⟩ 1 1 [.int .i64 x.start, .int .i64 (min x.len (D.extents - x.start))] rfl rfl (fun j u hu => by rw [Addr.add_lit, Nat.zero_add]; exact cell_new rfl (by simpa using hu)) (by simp [Value.oneCell']) (by unfold maxLen; omega) (by omega) (by simp only [World.size_alloc]; omega) ?_
              intro v' w1 hown' hgrow _
              obtain ⟨g', cap', rfl⟩ := ownsRow_succ hown'
              obtain ⟨i1, i2, i3, i4, i5⟩ := HI.out
              have hA := below_alloc W (.cells #[.int .i64 x.start, .int .i64 (min x.len (D.extents - x.start))] 36)
              have hvo : ∀ k, v.ownBlock = some k → B1 ≤ k ∧ ∃ cur, W.heap[k]? = some (.cells cur 36 (0, 0)) := fun k e => ⟨(World.ownsRow.lt i2 k e).1, by
                rcases i2.2 with ⟨rfl, _⟩ | ⟨g, cap, cur, rfl, _, hgg, _⟩
                · cases e
                · obtain rfl : g = k := by injection e
                  exact ⟨cur, hgg⟩⟩
              have kb : ∀ k, k < W.heap.size → v.ownBlock ≠ some k → w1.heap[k]? = W.heap[k]? := fun k hk hn => (hgrow.block k (Nat.lt_of_lt_of_le hk hA.size) (fun e => hn e.symm)).trans (hA.block k hk)
              have bl1 : w1.heap[Bd + 1]? = some (.cells #[v] 22 (0, 0)) := (kb _ (lt_of_block i1) (fun e => by have := (hvo _ e).1; omega)).trans i1
              have l1 : w1.cell? ⟨Bd + 1, 0, none⟩ = some v := by simp [World.cell?, bl1]
              have lf : w1.frozen? ⟨Bd + 1, 0, none⟩ = false := by simp [World.frozen?, bl1]
              have hw1 : W.heap.size ≤ w1.heap.size := Nat.le_trans hA.size hgrow.size
              have hBel : Below w.heap.size W w1 := ((Below.refl _ W).alloc hwz _).grown hgrow (Nat.le_trans hwz hA.size) (fun k e => by have := (hvo k e).1; omega)
              have HST : Hid (∀ u : Value, KeepsFrom W5.heap.size W (w1.setCell ⟨Bd + 1, 0, none⟩ u) ∧ KpT w.heap.size W (w1.setCell ⟨Bd + 1, 0, none⟩ u) ∧ (w1.setCell ⟨Bd + 1, 0, none⟩ u).heap[Bd + 1]? = some (.cells #[u] 22 (0, 0)) ∧ ∀ k, k ≠ Bd + 1 → (w1.setCell ⟨Bd + 1, 0, none⟩ u).heap[k]? = w1.heap[k]?) := Lib.hid fun u => by
                have ks : ∀ k, k ≠ Bd + 1 → (w1.setCell ⟨Bd + 1, 0, none⟩ u).heap[k]? = w1.heap[k]? := fun k e => Below.heap_setCell _ _ _ _ e
                have hs : (w1.setCell ⟨Bd + 1, 0, none⟩ u).heap.size = w1.heap.size := by simp [World.setCell]
                refine ⟨⟨by omega, fun k o hk ho hc => ?_⟩, ⟨hBel.setCell (p := ⟨Bd + 1, 0, none⟩) (by show w.heap.size ≤ Bd + 1; omega) u, fun k cs t z e ht => ?_⟩, block_setCell (i := 0) u bl1, ks⟩
                · have hkl := (Array.getElem?_eq_some_iff.1 ho).1
                  have hn1 : k ≠ Bd + 1 := fun e => by
                    rw [e, i1] at ho
                    injection ho with ho
                    subst ho
                    cases hc
                  have hn2 : v.ownBlock ≠ some k := fun e => by
                    obtain ⟨_, cur, q⟩ := hvo k e
                    rw [q] at ho
                    injection ho with ho
                    subst ho
                    cases hc
                  exact (ks k hn1).trans ((kb k hkl hn2).trans ho)
                · have hn1 : k ≠ Bd + 1 := fun e' => by
                    rw [e', i1] at e
                    injection e with e
                    injection e with _ e _
                    subst e
                    cases ht
                  have hn2 : v.ownBlock ≠ some k := fun e' => by
                    obtain ⟨_, cur, q⟩ := hvo k e'
                    rw [q] at e
                    injection e with e
                    injection e with _ e _
                    subst e
                    cases ht
                  exact (ks k hn1).trans (kb k (lt_of_block e) hn2)
              have HOW := Lib.hid hown'; clear hown'
              have HBel := Lib.hid hBel; clear hBel
              have HKB := Lib.hid kb; clear kb
              have HVO := Lib.hid hvo; clear hvo
              clear hgrow hA bl1
              gi_wp2
              obtain ⟨s1, s2, s3, s4⟩ := HST.out (.slice (some ⟨g', 0, none⟩) ((usedR nm D.extents pre).length + 1) cap')
              refine ⟨s1, s2, _, s3, ?_, (s4 _ (by omega)).trans ((HKB.out _ (lt_of_block i3) (fun e => by have := (HVO.out _ e).1; omega)).trans i3), (s4 _ (by omega)).trans ((HKB.out _ (lt_of_block i4) (fun e => by have := (HVO.out _ e).1; omega)).trans i4), i5.trans s2.1, Nat.le_trans h6 s2.1.size⟩
              rw [HC.out]
              unfold OwnR
              rw [cellsR_append, List.length_append]
              exact ownsRow_keep1 HOW.out fun k e => s4 k (by have := (World.ownsRow.lt HOW.out k e).1; omega)
            · gi_wp2
              exact ⟨KeepsFrom.refl _ _, ⟨Below.refl _ _, fun _ _ _ _ _ _ => rfl⟩, v, HI.out.1, by rw [usedR_miss pre (fun q => by have := q.2.2.2; omega)]; exact HI.out.2.1, HI.out.2.2.1, HI.out.2.2.2.1, HI.out.2.2.2.2, h6⟩
          · gi_wp2
            exact ⟨KeepsFrom.refl _ _, ⟨Below.refl _ _, fun _ _ _ _ _ _ => rfl⟩, v, HI.out.1, by rw [usedR_miss pre (fun q => by have := q.2.2.1; omega)]; exact HI.out.2.1, HI.out.2.2.1, HI.out.2.2.2.1, HI.out.2.2.2.2, h6⟩
        · gi_wp2
          exact ⟨KeepsFrom.refl _ _, ⟨Below.refl _ _, fun _ _ _ _ _ _ => rfl⟩, v, HI.out.1, by rw [usedR_miss pre (fun q => by have := q.2.1; omega)]; exact HI.out.2.1, HI.out.2.2.1, HI.out.2.2.2.1, HI.out.2.2.2.2, h6⟩
      · have e1 := bytes_ne c1
        gi_wp2
        exact ⟨KeepsFrom.refl _ _, ⟨Below.refl _ _, fun _ _ _ _ _ _ => rfl⟩, v, HI.out.1, by rw [usedR_miss pre (fun q => c1 q.1)]; exact HI.out.2.1, HI.out.2.2.1, HI.out.2.2.2.1, HI.out.2.2.2.2, h6⟩
    case done =>
      rintro Dd xs W hD rfl ⟨v, h1, h2, h3, h4, h5, h6⟩ hK
      have l0 : W.cell? ⟨Bd + 1, 0, none⟩ = some v := by simp [World.cell?, h1]
      have hul := usedR_len nm D.extents (pieces vols)
      have hKl := (Array.getElem?_eq_some_iff.1 hK).1
      have HK := Lib.hid hK; clear hK
      have H5 := Lib.hid h5; clear h5
      have H2 := Lib.hid h2; clear h2
      clear h1 h3 h4
      go_wp2_with fail
      refine (Normal_ok (usedR nm D.extents (pieces vols)) v W H2.out.rd (usedR_val hDE.2) (by omega)).mono ?_
      rintro e w7 ⟨v7, x7, rfl, ho7, hnf, hl7, hb7⟩
      have hK7 := (hb7.block Dd hKl).trans HK.out
      have HO7 := Lib.hid ho7; clear ho7
      have HB7 := Lib.hid hb7; clear hb7
      have HNF := Lib.hid hnf; clear hnf
      go_wp2
      refine ⟨by simp, .inl ⟨_, _, rfl, run_takeDeferred hK7, ?_⟩⟩
      refine ⟨.tuple #[v7, .int .i64 0], by simp [results, Try.results33, go_sem], ?_⟩
      unfold UsedP
      rw [hf]
      have hw7 := HB7.out.size
      have h5z := H5.out.size
      exact ⟨v7, x7, rfl, ownsRow_putObj (OwnR.mono HO7.out h5z) _ hK7 rfl, HNF.out, hl7, (H5.out.trans (HB7.out.mono h5z)).trans (belowK_b (w := w) (Nat.le_refl _) w7 Dd _ _ (by omega) hK7 rfl rfl)⟩
    case stop =>
      rintro D c pre W _ _ h _
      exact h.elim

end Go.Proofs.Yteengifhndmjeaa

namespace Go.Proofs.Yteengifhndmjeaa
open Go.RowKit

/-- What Free answers for a disk that is there. -/
def FreeP (disks : List DiskM) (vols : List VolM) (nm : ByteArray) (w : World) (e : Ending) (w' : World) : Prop :=
  match findD disks nm with
  | none => e = .returned (.tuple #[.slice none 0 0, .int .i64 12]) ∧ Below w.heap.size w w'
  | some D => RetNF2' w (fun n => (0 ≤ n ∧ n < D.extents) ∧ ¬ Mem (usedR nm D.extents (pieces vols)) n) (2 * ((pieces vols).length + 1)) e w'

set_option maxRecDepth 100000 in
set_option maxHeartbeats 4000000 in
theorem Free_any {ok : Nat → Prop} (name : ByteArray) (id seq ext nx : Int) (tp dp vp hp : Option Addr) (tl tc dc vc hl hc : Nat) (disks : List DiskM) (vols : List VolM) (nm : ByteArray) (w : World) (hr : RdS vDisk 7 ok w [.slice dp disks.length dc] disks) (hd : disks.length ≤ 1000) (htg : ∀ D ∈ disks, D.tags.length ≤ 1000) (hde : ∀ D ∈ disks, 0 ≤ D.extents ∧ D.extents ≤ 1000000)
    (hv : RdS vVol 6 ok w [.slice vp vols.length vc] vols) (hvl : vols.length ≤ 1000) (ht : TameV vols) (hps : ∀ p ∈ pieces vols, 0 ≤ p.start ∧ p.start ≤ 1000000) (hpn : (pieces vols).length ≤ 100000) :
    Calls Try.prog 34 #[.agg #[.string name, .int .u64 id, .int .i64 seq, .int .i64 ext, .int .i64 nx, .slice tp tl tc, .slice dp disks.length dc, .slice vp vols.length vc, .slice hp hl hc], .string nm] w (FreeP disks vols nm w) := by
  have hb1 := below_alloc w (.cells #[.string name, .int .u64 id, .int .i64 seq, .int .i64 ext, .int .i64 nx, .slice tp tl tc, .slice dp disks.length dc, .slice vp vols.length vc, .slice hp hl hc] 52)
  have hg1 := heap_alloc_new w (.cells #[.string name, .int .u64 id, .int .i64 seq, .int .i64 ext, .int .i64 nx, .slice tp tl tc, .slice dp disks.length dc, .slice vp vols.length vc, .slice hp hl hc] 52)
  have HR := Lib.hid hr; clear hr
  have HV := Lib.hid hv; clear hv
  have HT := Lib.hid ht; clear ht
  have HTG := Lib.hid htg; clear htg
  have HDE := Lib.hid hde; clear hde
  have HPS := Lib.hid hps; clear hps
  have HG1 := Lib.hid hg1; clear hg1
  have HB1 := Lib.hid hb1; clear hb1
  go_enter Try.func34, Try.ntmps34
  go_wp2_with fail
  generalize hW1 : World.alloc w _ = W1 at *
  clear hW1
  refine (Used_any (ok := ok) name id seq ext nx tp dp vp hp tl tc dc vc hl hc disks vols nm W1 ((RdS.moves vDisk.moves).mv ⟨HB1.out.size, fun b hb ho => ⟨ho, HB1.out.block b hb⟩⟩ HR.out) hd HTG.out HDE.out ((RdS.moves vVol.moves).mv ⟨HB1.out.size, fun b hb ho => ⟨ho, HB1.out.block b hb⟩⟩ HV.out) hvl HT.out HPS.out hpn).mono ?_
  rintro e w2 hu
  unfold UsedP at hu
  cases hf : findD disks nm with
  | none =>
    rw [hf] at hu
    obtain ⟨rfl, hb2⟩ := hu
    have HB2 := Lib.hid (HB1.out.trans (hb2.mono HB1.out.size)); clear hb2
    go_wp2
    refine bodyPost_ret (v := .tuple #[.slice none 0 0, .int .i64 12]) (by simp [results, Try.results34, go_sem]) rfl ?_
    unfold FreeP
    rw [hf]
    exact ⟨rfl, HB2.out⟩
  | some D =>
    rw [hf] at hu
    obtain ⟨v2, x2, rfl, ho2, hnf2, hl2, hb2⟩ := hu
    have hDE := HDE.out D (List.mem_of_find?_eq_some hf)
    have hg2 := (hb2.block _ (lt_of_block HG1.out)).trans HG1.out
    have HB2 := Lib.hid (HB1.out.trans (hb2.mono HB1.out.size))
    have HO2 := Lib.hid ho2; clear ho2
    have HNF := Lib.hid hnf2; clear hnf2
    clear hb2
    have gL : ∀ (j : Nat) (z : Value), [.string name, .int .u64 id, .int .i64 seq, .int .i64 ext, .int .i64 nx, .slice tp tl tc, .slice dp disks.length dc, .slice vp vols.length vc, .slice hp hl hc][j]? = some z → w2.cell? ⟨w.heap.size, j, none⟩ = some z := fun j z hz => by
      simp only [World.cell?, hg2]
      simpa using hz
    have y0 := gL 0 _ rfl
    have y1 := gL 1 _ rfl
    have y2 := gL 2 _ rfl
    have y3 := gL 3 _ rfl
    have y4 := gL 4 _ rfl
    have y5 := gL 5 _ rfl
    have y6 := gL 6 _ rfl
    have y7 := gL 7 _ rfl
    have y8 := gL 8 _ rfl
    clear gL hg2
    go_wp2_with fail
    clear y0 y1 y2 y3 y4 y5 y6 y7 y8
    refine (Disk_any (ok := ok) name id seq ext nx tp dp vp hp tl tc dc vols.length vc hl hc disks nm w2 ((RdS.moves vDisk.moves).mv ⟨HB2.out.size, fun b hb ho => ⟨ho, HB2.out.block b hb⟩⟩ HR.out) hd HTG.out).mono ?_
    rintro e w3 ⟨hb3, hm⟩
    rw [hf] at hm
    obtain ⟨p3, n3, c3, rfl⟩ := hm
    have HB3 := Lib.hid (HB2.out.trans (hb3.mono HB2.out.size))
    have HO3 := Lib.hid (OwnR.below HO2.out hb3)
    clear hb3
    have hb4 : Below w3.heap.size w3 ((w3.alloc (.cells #[.string D.name, .int .u64 D.id, .int .i64 D.first, .int .i64 D.extents, .bool D.closed, .bool D.missing, .slice p3 n3 c3] 59)).alloc (.cells #[.int .i64 0, .int .i64 D.extents] 36)) := ((Below.refl _ _).alloc (Nat.le_refl _) _).alloc (by simp) _
    have hr4 : ((w3.alloc (.cells #[.string D.name, .int .u64 D.id, .int .i64 D.first, .int .i64 D.extents, .bool D.closed, .bool D.missing, .slice p3 n3 c3] 59)).alloc (.cells #[.int .i64 0, .int .i64 D.extents] 36)).heap[w3.heap.size + 1]? = some (.cells #[.int .i64 0, .int .i64 D.extents] 36 (0, 0)) := by
      have := heap_alloc_new (w3.alloc (.cells #[.string D.name, .int .u64 D.id, .int .i64 D.first, .int .i64 D.extents, .bool D.closed, .bool D.missing, .slice p3 n3 c3] 59)) (.cells #[.int .i64 0, .int .i64 D.extents] 36)
      rw [World.size_alloc] at this
      exact this
    have HR4 := Lib.hid hr4; clear hr4
    have HB4 := Lib.hid (HB3.out.trans (hb4.mono HB3.out.size))
    have HO4 := Lib.hid (OwnR.below HO3.out hb4)
    clear hb4
    have hx2 : x2.length ≤ (pieces vols).length := Nat.le_trans hl2 (usedR_len _ _ _)
    go_wp2_with fail
    generalize hW4 : World.alloc (World.alloc w3 _) _ = W4 at *
    clear hW4
    have hrl : RdR W4 (.slice (some ⟨w3.heap.size + 1, 0, none⟩) 1 1) [(0, D.extents)] := ⟨_, 1, rfl, by simp, by omega, fun _ => ⟨_, 0, rfl, lt_of_block HR4.out, fun i p hp => by
      match i, hp with
      | 0, hp =>
        obtain rfl : (0, D.extents) = p := by simpa using hp
        exact ⟨by simp [World.cell?, HR4.out], by simp [World.cell?, HR4.out]⟩⟩⟩
    refine (Minus_ok [(0, D.extents)] x2 _ v2 W4 hrl HO4.out.rd (by simp [valB, vldB]; omega) (NFof_valB HNF.out (usedR_val hDE.2)) (by simp) (by omega)).mono ?_
    rintro e w5 ⟨v5, x5, rfl, ho5, hnf5, hv5, hl5, hb5⟩
    have HO5 := Lib.hid ho5; clear ho5
    have HN5 := Lib.hid hnf5; clear hnf5
    have HV5 := Lib.hid hv5; clear hv5
    have HB5 := Lib.hid hb5; clear hb5
    clear hrl
    go_wp2
    refine bodyPost_ret (v := .tuple #[v5, .int .i64 0]) (by simp [results, Try.results34, go_sem]) rfl ?_
    unfold FreeP
    rw [hf]
    have h4z := HB4.out.size
    refine ⟨v5, x5, rfl, OwnR.mono HO5.out h4z, HN5.out.congr (fun n => ?_), HV5.out, ?_, HB4.out.trans (HB5.out.mono h4z)⟩
    · have hm : inB x2 n = true ↔ Mem (usedR nm D.extents (pieces vols)) n := (inB_iff x2 n).trans (HNF.out.2 n)
      have h0 : inB [(0, D.extents)] n = true ↔ (0 ≤ n ∧ n < D.extents) := by simp [inB]
      simp only [cM, Bool.and_eq_true, Bool.not_eq_true', h0]
      rw [← hm, Bool.not_eq_true]
    · simp only [List.length_cons, List.length_nil] at hl5
      omega

end Go.Proofs.Yteengifhndmjeaa
