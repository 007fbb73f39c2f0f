/- Piece.Has at whatever numbers; the loop over areas.All in space.Owner. space.Owner: the loop over the volumes. -/
import Derived.Test.YteengifhndmjeaaSpCa
import Derived.Laws.Strings
import Derived.Deep.LoopGhost
namespace Go.Proofs.Yteengifhndmjeaa
open Go.RowKit Go.Shelf
attribute [local go_sem] Oper.semAt_some

/-- What Piece.Has computes. -/
def hasF (s l x : Int) : Bool := decide (0 < l) && (decide (s ≤ x) && decide (IntKind.u64.wrap (IntKind.u64.wrap x - IntKind.u64.wrap s) < IntKind.u64.wrap l))
def hitF (nm : ByteArray) (x : Int) (p : PieceM) : Bool := decide (p.disk = nm) && hasF p.start p.len x

set_option maxHeartbeats 1000000 in
theorem PieceHas_all (vol disk : ByteArray) (s l x : Int) (w : World) :
    Calls Try.prog 63 #[.agg #[.string vol, .string disk, .int .i64 s, .int .i64 l], .int .i64 x] w fun e w' => e = .returned (.bool (hasF s l x)) ∧ Below w.heap.size w w' := by
  have hb := below_alloc w (.cells #[.string vol, .string disk, .int .i64 s, .int .i64 l] 96)
  have HB := Lib.hid hb; clear hb
  go_enter Try.func63, Try.ntmps63
  by_cases hl : 0 < l
  · have HL := Lib.hid hl
    by_cases hsx : s ≤ x
    · have HX := Lib.hid hsx
      go_wp2
      go_ret
      exact ⟨by simp [hasF, HL.out, HX.out], HB.out⟩
    · have HX := Lib.hid hsx
      go_wp2
      go_ret
      exact ⟨by unfold hasF; rw [decide_eq_false (Int.not_le.2 HX.out)]; simp, HB.out⟩
  · have HL := Lib.hid hl
    go_wp2
    go_ret
    exact ⟨by unfold hasF; rw [decide_eq_false (Int.not_lt.2 HL.out)]; simp, HB.out⟩

theorem hasF_eq {s l x : Int} (hs0 : 0 ≤ s) (hs1 : s ≤ 1000000) (hl0 : 0 ≤ l) (hl1 : l ≤ 1000000) (hx0 : 0 ≤ x) (hx1 : x ≤ 1000000) : hasF s l x = decide (s ≤ x ∧ x < s + l) := by
  have hw1 : IntKind.u64.wrap x = x := IntWalk.u64_in _ (by omega)
  have hw2 : IntKind.u64.wrap s = s := IntWalk.u64_in _ (by omega)
  have hw3 : IntKind.u64.wrap l = l := IntWalk.u64_in _ (by omega)
  unfold hasF
  rw [hw1, hw2, hw3]
  by_cases hsx : s ≤ x
  · have hw4 : IntKind.u64.wrap (x - s) = x - s := IntWalk.u64_in _ (by omega)
    rw [hw4]
    rw [← Bool.decide_and, ← Bool.decide_and]
    exact decide_eq_decide.2 ⟨fun q => ⟨hsx, by omega⟩, fun q => by omega⟩
  · rw [show decide (s ≤ x) = false from decide_eq_false hsx]
    simp
    omega

theorem bytes_ne' {a b : ByteArray} (h : ¬ a = b) : (a.toList == b.toList) = false := by
  rw [ByteArray.toList_eq, ByteArray.toList_eq]
  obtain ⟨⟨x⟩⟩ := a
  obtain ⟨⟨y⟩⟩ := b
  simp only [beq_eq_false_iff_ne]
  exact fun e => h (by simp_all)
/-- The first range over a function in a text. -/
def rfOf : Code → Option Code
  | .rangeFunc g ps a b => some (.rangeFunc g ps a b)
  | .seq a b => match rfOf a with
    | some c => some c
    | none => rfOf b
  | .block _ c => rfOf c
  | .loop c => rfOf c
  | .scope c => rfOf c
  | .cond _ a b => match rfOf a with
    | some c => some c
    | none => rfOf b
  | _ => none
noncomputable def ownerRF : Code := ((Try.f37.body.bind rfOf).getD .skip)

set_option maxRecDepth 100000 in
set_option maxHeartbeats 4000000 in
theorem owner_rf (Q : Exit → Act → World → Prop) (c0 c1 c2 c3 c6 c7 c8 c9 c12 c14 c15 c16 c17 c18 c19 c20 c21 c22 c23 c24 c25 c26 c27 c28 c29 c30 c31 c32 c33 c34 c35 c36 c37 c38 c39 c40 c41 c42 c44 c45 c46 c47 c48 c49 c50 c51 c52 c53 c54 c55 c56 c57 c58 : Value) (ds : List Deferred) (W : World) (B4 B5 B10 B11 B13 Bg : Nat) (vp : Option Addr) (v : VolM) (nm : ByteArray) (ex : Int) (u1 u2 u3 u4 u5 : Value) (cg : Array Value)
    (hg : W.heap[Bg]? = some (.cells cg 52 (0, 0))) (hg7 : cg[7]? = some (.slice vp 1 1)) (hv : RdS vVol 6 (fun b => b < W.heap.size) W [.slice vp 1 1] [v]) (ht : TameV [v])
    (h4 : W.heap[B4]? = some (.cells #[.string nm] 9 (0, 0))) (h5 : W.heap[B5]? = some (.cells #[.int .i64 ex] 3 (0, 0)))
    (h10 : W.heap[B10]? = some (.cells #[.string ⟨#[]⟩] 9 (0, 0))) (h11 : W.heap[B11]? = some (.cells #[.bool false] 4 (0, 0)))
    (h13 : W.heap[B13]? = some (.cells #[.string v.name, u1, u2, u3, u4, u5] 56 (0, 0))) (hne : B10 ≠ B11)
    (hdone : ∀ (D : Nat) (W' : World), W.heap.size ≤ D → W'.heap[D]? = some (.deferred (some [])) → Below W.heap.size W W' → (∀ p ∈ pieces [v], hitF nm ex p = false) → Q .normal ⟨#[c0, c1, c2, c3, .pointer (some ⟨B4, 0, none⟩), .pointer (some ⟨B5, 0, none⟩), c6, c7, c8, c9, .pointer (some ⟨B10, 0, none⟩), .pointer (some ⟨B11, 0, none⟩), c12, .pointer (some ⟨B13, 0, none⟩), c14, c15, c16, c17, c18, c19, c20, c21, c22, c23, c24, c25, c26, c27, c28, c29, c30, c31, c32, c33, c34, c35, c36, c37, c38, c39, c40, c41, c42, .func (.func 77) #[] #[.pointer (some ⟨Bg, 0, none⟩)], c44, c45, c46, c47, c48, c49, c50, c51, c52, c53, c54, c55, c56, c57, c58], coll D :: ds⟩ W')
    (hstop : ∀ (D : Nat) (W' : World), W.heap.size ≤ D → W'.heap[D]? = some (.deferred (some [])) → (∃ p ∈ pieces [v], hitF nm ex p = true) → W'.heap[B10]? = some (.cells #[.string v.name] 9 (0, 0)) → W'.heap[B11]? = some (.cells #[.bool true] 4 (0, 0)) → (∀ k, k < W.heap.size → k ≠ B10 → k ≠ B11 → W'.heap[k]? = W.heap[k]?) → (∀ n, n ≤ B10 → n ≤ B11 → Below n W W') → Q (.exit 0) ⟨#[c0, c1, c2, c3, .pointer (some ⟨B4, 0, none⟩), .pointer (some ⟨B5, 0, none⟩), c6, c7, c8, c9, .pointer (some ⟨B10, 0, none⟩), .pointer (some ⟨B11, 0, none⟩), c12, .pointer (some ⟨B13, 0, none⟩), c14, c15, c16, c17, c18, c19, c20, c21, c22, c23, c24, c25, c26, c27, c28, c29, c30, c31, c32, c33, c34, c35, c36, c37, c38, c39, c40, c41, c42, .func (.func 77) #[] #[.pointer (some ⟨Bg, 0, none⟩)], c44, c45, c46, c47, c48, c49, c50, c51, c52, c53, c54, c55, c56, c57, c58], coll D :: ds⟩ W') :
    ownerRF.wp Try.prog Q ⟨#[c0, c1, c2, c3, .pointer (some ⟨B4, 0, none⟩), .pointer (some ⟨B5, 0, none⟩), c6, c7, c8, c9, .pointer (some ⟨B10, 0, none⟩), .pointer (some ⟨B11, 0, none⟩), c12, .pointer (some ⟨B13, 0, none⟩), c14, c15, c16, c17, c18, c19, c20, c21, c22, c23, c24, c25, c26, c27, c28, c29, c30, c31, c32, c33, c34, c35, c36, c37, c38, c39, c40, c41, c42, .func (.func 77) #[] #[.pointer (some ⟨Bg, 0, none⟩)], c44, c45, c46, c47, c48, c49, c50, c51, c52, c53, c54, c55, c56, c57, c58], ds⟩ W := by
  have HD := Lib.hid hdone; clear hdone
  have HS := Lib.hid hstop; clear hstop
  have hBg := lt_of_block hg
  conv => arg 2; whnf
  refine (wpIn_wide (n := 3)).1 ?_
  refine wpIn_rangeFunc_ownH (F := Fence.wide) rfl (by omega) (gf := 77) (lb := #[.pointer (some ⟨Bg, 0, none⟩)]) rfl trivial (enters_of Try.func77 (by kernel_rfl) rfl)
    (all1_stops (3 - 1) W.heap.size Bg W vp 1 [v] (by simp [World.cell?, hg, hg7]) hBg (Nat.le_refl _) hv ht (by simp)) KpT.trans
    (fun W1 l o o' hl h h1 h2 => ⟨belowK_b (w := W) (Nat.le_refl _) W1 l o o' hl h h1 h2, fun k cs t z e _ => (grownBy_putObj' W1 l o').block k (lt_of_block e) (fun q => by injection q with q; subst q; rw [e] at h; injection h with h; subst h; cases h1)⟩) (Below.refl _ _) (fun _ => rfl)
    (fun pre W1 => (∀ p ∈ pre, hitF nm ex p = false) ∧ Below W.heap.size W W1)
    (fun c pre W1 => c = .exit 0 ∧ (∃ p ∈ pre, hitF nm ex p = true) ∧ W1.heap[B10]? = some (.cells #[.string v.name] 9 (0, 0)) ∧ W1.heap[B11]? = some (.cells #[.bool true] 4 (0, 0)) ∧ (∀ k, k < W.heap.size → k ≠ B10 → k ≠ B11 → W1.heap[k]? = W.heap[k]?) ∧ (∀ n, n ≤ B10 → n ≤ B11 → Below n W W1)) ?own ?ownx ?init
    (fun x a' W1 => ∃ Bx, W1.heap[Bx]? = some (.cells #[.string x.vol, .string x.disk, .int .i64 x.start, .int .i64 x.len] 96 (0, 0)) ∧ W.heap.size ≤ Bx ∧ a' = ⟨#[c0, c1, c2, c3, .pointer (some ⟨B4, 0, none⟩), .pointer (some ⟨B5, 0, none⟩), c6, c7, c8, c9, .pointer (some ⟨B10, 0, none⟩), .pointer (some ⟨B11, 0, none⟩), c12, .pointer (some ⟨B13, 0, none⟩), .pointer (some ⟨Bx, 0, none⟩), c15, c16, c17, c18, c19, c20, c21, c22, c23, c24, c25, c26, c27, c28, c29, c30, c31, c32, c33, c34, c35, c36, c37, c38, c39, c40, c41, c42, .func (.func 77) #[] #[.pointer (some ⟨Bg, 0, none⟩)], .agg #[.string x.vol, .string x.disk, .int .i64 x.start, .int .i64 x.len], c45, c46, c47, c48, c49, c50, c51, c52, c53, c54, c55, c56, c57, c58], []⟩) ?ax ?assign ?body ?done ?stop
  case own =>
    rintro pre W1 W' row ⟨h1, h2⟩ hg hr
    exact ⟨h1, h2.grown hg h2.size (fun k e => (hr k e).1)⟩
  case ownx =>
    rintro c pre W1 W' row ⟨h1, h2, h3, h4, h5, h6⟩ hg hr
    have hz : ∀ n, n ≤ B10 → n ≤ B11 → Below n W1 W' := fun n n1 n2 => (Below.refl _ _).grown hg (by have := lt_of_block h3; omega) (fun k e => by have := (hr k e).1; have := lt_of_block h10; omega)
    refine ⟨h1, h2, keepC hg hr h3, keepC hg hr h4, fun k hk k1 k2 => (hg.block k (by have := (h6 0 (by omega) (by omega)).size; omega) (fun e => by have := (hr k e.symm).1; omega)).trans (h5 k hk k1 k2), fun n n1 n2 => (h6 n n1 n2).trans (hz n n1 n2)⟩
  case init => exact ⟨fun p hp => by (cases hp), Below.refl _ _⟩
  case ax =>
    rintro x a' _ W1 W' row ⟨Bx, h1, h2, h3⟩ hg hr
    exact ⟨Bx, keepC hg hr h1, h2, h3⟩
  case assign =>
    rintro l pre x W1 K ⟨h1, h2⟩ hK
    have HI := Lib.hid (⟨h1, h2⟩ : _ ∧ _)
    clear h1 h2
    have HK := Lib.hid hK; clear hK
    simp only [encP, List.zip_toArray, List.zip_cons_cons, List.zip_nil_right, List.foldl_toArray, List.foldl_cons, List.foldl_nil, List.setIfInBounds_toArray, List.set_cons_succ, List.set_cons_zero]
    gi_wp2
    have hI := HI.out
    have hbx := below_alloc W1 (.cells #[.string x.vol, .string x.disk, .int .i64 x.start, .int .i64 x.len] 96)
    refine HK.out _ _ ((KeepsOthers.alloc _ _).from _) (KpT.of_below hbx hI.2.size) ⟨hI.1, hI.2.alloc hI.2.size _⟩ ⟨W1.heap.size, heap_alloc_new W1 _, hI.2.size, rfl⟩
  case body =>
    rintro l pre x a' W1 hl ⟨r, hr⟩ ⟨hpre, hBl⟩ ⟨Bx, hx, hBx, rfl⟩ hlt
    clear hr r
    have k4 := (hBl.block _ (lt_of_block h4)).trans h4
    have k5 := (hBl.block _ (lt_of_block h5)).trans h5
    have k10 := (hBl.block _ (lt_of_block h10)).trans h10
    have k11 := (hBl.block _ (lt_of_block h11)).trans h11
    have k13 := (hBl.block _ (lt_of_block h13)).trans h13
    have xL : ∀ (j : Nat) (z : Value), [.string x.vol, .string x.disk, .int .i64 x.start, .int .i64 x.len][j]? = some z → W1.cell? ⟨Bx, j, none⟩ = some z := fun j z hz => by
      simp only [World.cell?, hx]
      simpa using hz
    have x0 := xL 0 _ rfl
    have x1 := xL 1 _ rfl
    have x2 := xL 2 _ rfl
    have x3 := xL 3 _ rfl
    have n0 : W1.cell? ⟨B4, 0, none⟩ = some (.string nm) := by simp [World.cell?, k4]
    have e0 : W1.cell? ⟨B5, 0, none⟩ = some (.int .i64 ex) := by simp [World.cell?, k5]
    have HP := Lib.hid hpre; clear hpre
    have HBl := Lib.hid hBl; clear hBl
    have K10 := Lib.hid k10; clear k10
    have K11 := Lib.hid k11; clear k11
    have K13 := Lib.hid k13; clear k13
    have H10 := Lib.hid h10; clear h10
    have H11 := Lib.hid h11; clear h11
    clear h4 h5 h13 hg hg7 hv ht hx xL k4 k5
    by_cases c1 : x.disk = nm
    · have e1 : (x.disk.toList == nm.toList) = true := by rw [c1]; simp
      have HC1 := Lib.hid c1; clear c1
      gi_wp2_with fail
      refine ⟨trivial, CallsIn.inRound l (callsIn_wide.2 ((PieceHas_all x.vol x.disk x.start x.len ex W1).mono ?_))⟩
      rintro e W2 ⟨rfl, hb2⟩
      have B2 := Lib.hid hb2; clear hb2
      clear x0 x1 x2 x3 n0 e0
      cases hh : hasF x.start x.len ex with
      | true =>
        have j10 := (B2.out.block _ (lt_of_block K10.out)).trans K10.out
        have j11 := (B2.out.block _ (lt_of_block K11.out)).trans K11.out
        have j13 := (B2.out.block _ (lt_of_block K13.out)).trans K13.out
        have v0 : W2.cell? ⟨B13, 0, none⟩ = some (.string v.name) := by simp [World.cell?, j13]
        have l10 : W2.cell? ⟨B10, 0, none⟩ = some (.string ⟨#[]⟩) := by simp [World.cell?, j10]
        have f10 : W2.frozen? ⟨B10, 0, none⟩ = false := by simp [World.frozen?, j10]
        have l11 : W2.cell? ⟨B11, 0, none⟩ = some (.bool false) := by simp [World.cell?, j11]
        have f11 : W2.frozen? ⟨B11, 0, none⟩ = false := by simp [World.frozen?, j11]
        gi_wp2
        clear v0 l10 f10 l11 f11
        have ks : ∀ k, k ≠ B10 → k ≠ B11 → ((W2.setCell ⟨B10, 0, none⟩ (.string v.name)).setCell ⟨B11, 0, none⟩ (.bool true)).heap[k]? = W2.heap[k]? := fun k a b => (Below.heap_setCell _ _ _ _ b).trans (Below.heap_setCell _ _ _ _ a)
        have hs : ((W2.setCell ⟨B10, 0, none⟩ (.string v.name)).setCell ⟨B11, 0, none⟩ (.bool true)).heap.size = W2.heap.size := by simp [World.setCell]
        have hz := B2.out.size
        have z10 := lt_of_block H10.out
        have z11 := lt_of_block H11.out
        have hz1 := HBl.out.size
        refine ⟨⟨by omega, fun k o hk ho hc => (ks k (by omega) (by omega)).trans ((B2.out.block k (Array.getElem?_eq_some_iff.1 ho).1).trans ho)⟩, rfl, ⟨x, by simp, by simp [hitF, HC1.out, hh]⟩, ?_, ?_, fun k hk a b => (ks k a b).trans ((B2.out.block k (by omega)).trans (HBl.out.block k hk)), fun n n1 n2 => ?_⟩
        · exact (Below.heap_setCell _ _ _ _ hne).trans (block_setCell (i := 0) _ j10)
        · exact block_setCell (i := 0) _ ((Below.heap_setCell _ _ _ _ (Ne.symm hne)).trans j11)
        · exact (((HBl.out.mono (by omega)).trans (B2.out.mono (by omega))).setCell (p := ⟨B10, 0, none⟩) n1 _).setCell (p := ⟨B11, 0, none⟩) n2 _
      | false =>
        gi_wp2
        refine ⟨⟨B2.out.size, fun k o hk ho hc => (B2.out.block k (Array.getElem?_eq_some_iff.1 ho).1).trans ho⟩, KpT.of_below B2.out HBl.out.size, fun p hp => ?_, HBl.out.trans (B2.out.mono HBl.out.size)⟩
        rcases List.mem_append.1 hp with q | q
        · exact HP.out p q
        · obtain rfl := List.mem_singleton.1 q
          simp [hitF, hh]
    · have e1 := bytes_ne' c1
      have HC1 := Lib.hid c1; clear c1
      gi_wp2
      refine ⟨trivial, ?_⟩
      gi_wp2
      refine ⟨KeepsFrom.refl _ _, ⟨Below.refl _ _, fun _ _ _ _ _ _ => rfl⟩, fun p hp => ?_, HBl.out⟩
      rcases List.mem_append.1 hp with q | q
      · exact HP.out p q
      · obtain rfl := List.mem_singleton.1 q
        simp [hitF, HC1.out]
  case done =>
    rintro D xs W1 hD rfl ⟨h1, h2⟩ hK
    exact HD.out D W1 hD hK h2 h1
  case stop =>
    rintro D c pre W1 hD hp ⟨rfl, ⟨p, hpp, hh⟩, h3, h4, h5, h6⟩ hK
    refine wpIn_exit ?_
    exact HS.out D W1 hD hK ⟨p, hp.subset hpp, hh⟩ h3 h4 h5 h6

end Go.Proofs.Yteengifhndmjeaa

namespace Go.Proofs.Yteengifhndmjeaa
open Go.RowKit Go.Shelf
attribute [local go_sem] Oper.semAt_some

/-- The first loop in a text. -/
def loopOf : Code → Option Code
  | .loop c => some (.loop c)
  | .seq a b => match loopOf a with
    | some c => some c
    | none => loopOf b
  | .block _ c => loopOf c
  | .scope c => loopOf c
  | .cond _ a b => match loopOf a with
    | some c => some c
    | none => loopOf b
  | _ => none
noncomputable def ownerLoop : Code := ((Try.f37.body.bind loopOf).getD .skip)

/-- The volume that has an extent. -/
def ownRes (vols : List VolM) (nm : ByteArray) (ex : Int) : ByteArray × Bool := match vols.find? fun v => (volPieces v).any (hitF nm ex) with
  | none => (⟨#[]⟩, false)
  | some v => (v.name, true)
theorem ownRes_none {vols : List VolM} {nm : ByteArray} {ex : Int} (h : ∀ v ∈ vols, (volPieces v).any (hitF nm ex) = false) : ownRes vols nm ex = (⟨#[]⟩, false) := by
  unfold ownRes
  rw [List.find?_eq_none.2 fun v hv => by rw [h v hv]; simp]
theorem ownRes_at {vols : List VolM} {nm : ByteArray} {ex : Int} {k : Nat} {v : VolM} (hk : vols[k]? = some v) (h : ∀ x ∈ vols.take k, (volPieces x).any (hitF nm ex) = false) (hv : (volPieces v).any (hitF nm ex) = true) : ownRes vols nm ex = (v.name, true) := by
  unfold ownRes
  have e : vols = vols.take k ++ v :: vols.drop (k + 1) := by
    have hkl := (List.getElem?_eq_some_iff.1 hk).1
    have : vols.drop k = v :: vols.drop (k + 1) := by
      rw [List.drop_eq_getElem_cons hkl]
      rw [List.getElem?_eq_getElem hkl] at hk
      injection hk with hk
      rw [hk]
    rw [← this, List.take_append_drop]
  rw [e, List.find?_append, List.find?_eq_none.2 fun x hx => by rw [h x hx]; simp]
  simp [hv]
theorem pieces_one (v : VolM) : pieces [v] = volPieces v := by simp [pieces]

/-- What the loop over the volumes leaves. -/
structure OwnSt (n0 n1 B10 B11 : Nat) (W : World) (vols : List VolM) (nm : ByteArray) (ex : Int) (ds : List Nat) (W' : World) : Prop where
  nd : ds.Nodup
  df : ∀ D ∈ ds, n0 ≤ D ∧ W'.heap[D]? = some (.deferred (some []))
  bl : Below n1 W W'
  b10 : W'.heap[B10]? = some (.cells #[.string (ownRes vols nm ex).1] 9 (0, 0))
  b11 : W'.heap[B11]? = some (.cells #[.bool (ownRes vols nm ex).2] 4 (0, 0))

set_option maxRecDepth 100000 in
set_option maxHeartbeats 8000000 in
theorem owner_loop {ok : Nat → Prop} (Q : Exit → Act → World → Prop) (c0 c1 c2 c3 c6 c7 c8 c9 c12 c13 c14 c15 c16 c17 c18 c19 c20 c21 c22 c23 c24 c25 c26 c27 c28 c29 c30 c31 c32 c33 c37 c38 c39 c40 c41 c42 c43 c44 c45 c46 c47 c48 c49 c50 c51 c52 c53 c54 c55 c56 c57 c58 : Value) (W : World) (n1 B4 B5 B10 B11 : Nat) (vp : Option Addr) (vc : Nat) (vols : List VolM) (nm : ByteArray) (ex : Int)
    (hv : RdS vVol 6 ok W [.slice vp vols.length vc] vols) (hvl : vols.length ≤ 1000) (ht : TameV vols)
    (h4 : W.heap[B4]? = some (.cells #[.string nm] 9 (0, 0))) (h5 : W.heap[B5]? = some (.cells #[.int .i64 ex] 3 (0, 0)))
    (h10 : W.heap[B10]? = some (.cells #[.string ⟨#[]⟩] 9 (0, 0))) (h11 : W.heap[B11]? = some (.cells #[.bool false] 4 (0, 0))) (hne : B10 ≠ B11) (hn : n1 ≤ W.heap.size) (hn10 : n1 ≤ B10) (hn11 : n1 ≤ B11)
    (hdone : ∀ (ds : List Nat) (W' : World) (u13 u14 u36 u37 u38 u39 u40 u41 u42 u43 u44 u45 u46 u47 u48 u49 u50 u51 u52 u53 u54 u55 u56 : Value), OwnSt W.heap.size n1 B10 B11 W vols nm ex ds W' → Q (.exit 0) ⟨#[c0, c1, c2, c3, .pointer (some ⟨B4, 0, none⟩), .pointer (some ⟨B5, 0, none⟩), c6, c7, c8, c9, .pointer (some ⟨B10, 0, none⟩), .pointer (some ⟨B11, 0, none⟩), c12, u13, u14, c15, c16, c17, c18, c19, c20, c21, c22, c23, c24, c25, c26, c27, c28, c29, c30, c31, c32, c33, .slice vp vols.length vc, .int .i64 (vols.length : Int), u36, u37, u38, u39, u40, u41, u42, u43, u44, u45, u46, u47, u48, u49, u50, u51, u52, u53, u54, u55, u56, c57, c58], ds.map coll⟩ W') :
    ownerLoop.wp Try.prog Q ⟨#[c0, c1, c2, c3, .pointer (some ⟨B4, 0, none⟩), .pointer (some ⟨B5, 0, none⟩), c6, c7, c8, c9, .pointer (some ⟨B10, 0, none⟩), .pointer (some ⟨B11, 0, none⟩), c12, c13, c14, c15, c16, c17, c18, c19, c20, c21, c22, c23, c24, c25, c26, c27, c28, c29, c30, c31, c32, c33, .slice vp vols.length vc, .int .i64 (vols.length : Int), .int .i64 0, c37, c38, c39, c40, c41, c42, c43, c44, c45, c46, c47, c48, c49, c50, c51, c52, c53, c54, c55, c56, c57, c58], []⟩ W := by
  have HV := Lib.hid hv; clear hv
  have HT := Lib.hid ht; clear ht
  have HD := Lib.hid hdone; clear hdone
  have H4 := Lib.hid h4; clear h4
  have H5 := Lib.hid h5; clear h5
  have H10 := Lib.hid h10; clear h10
  have H11 := Lib.hid h11; clear h11
  conv => arg 2; whnf
  refine Go.wp_loop_ghost_k (fun m a W' => ∃ (k : Nat) (ds : List Nat) (u13 u14 u36 u37 u38 u39 u40 u41 u42 u43 u44 u45 u46 u47 u48 u49 u50 u51 u52 u53 u54 u55 u56 : Value), (u36 = .int .i64 (k : Int) ∧ m = vols.length - k ∧ k ≤ vols.length ∧ ds.Nodup ∧ (∀ D ∈ ds, W.heap.size ≤ D ∧ W'.heap[D]? = some (.deferred (some []))) ∧ Below W.heap.size W W' ∧ ∀ x ∈ vols.take k, (volPieces x).any (hitF nm ex) = false) ∧ a = ⟨#[c0, c1, c2, c3, .pointer (some ⟨B4, 0, none⟩), .pointer (some ⟨B5, 0, none⟩), c6, c7, c8, c9, .pointer (some ⟨B10, 0, none⟩), .pointer (some ⟨B11, 0, none⟩), c12, u13, u14, c15, c16, c17, c18, c19, c20, c21, c22, c23, c24, c25, c26, c27, c28, c29, c30, c31, c32, c33, .slice vp vols.length vc, .int .i64 (vols.length : Int), u36, u37, u38, u39, u40, u41, u42, u43, u44, u45, u46, u47, u48, u49, u50, u51, u52, u53, u54, u55, u56, c57, c58], ds.map coll⟩) vols.length ?_ ?_
  · exact ⟨0, [], c13, c14, .int .i64 0, c37, c38, c39, c40, c41, c42, c43, c44, c45, c46, c47, c48, c49, c50, c51, c52, c53, c54, c55, c56, ⟨rfl, rfl, Nat.zero_le _, List.nodup_nil, fun D hD => by (cases hD), Below.refl _ _, fun x hx => by simp at hx⟩, rfl⟩
  rintro m a wr ⟨k, ds, u13, u14, u36, u37, u38, u39, u40, u41, u42, u43, u44, u45, u46, u47, u48, u49, u50, u51, u52, u53, u54, u55, u56, ⟨rfl, rfl, hk, hnd, hdf, hB, hno⟩, rfl⟩ J K hJ hK
  have HND := Lib.hid hnd; clear hnd
  have HDF := Lib.hid hdf; clear hdf
  have HNO := Lib.hid hno; clear hno
  have HJ := Lib.hid hJ; clear hJ
  have HK := Lib.hid hK; clear hK
  have HB := Lib.hid hB; clear hB
  have hwz := HB.out.size
  by_cases hlt : k < vols.length
  · obtain ⟨v, hD⟩ := getSome vols k hlt
    obtain ⟨b, off, q, rfl, hob, hbw, hul, hvv, hcv⟩ := HV.out.elem hD
    obtain ⟨tv, sv, rfl, htr, hsr⟩ := hvv
    obtain ⟨tp', tc', rfl, _, _⟩ := htr.cap
    obtain ⟨sp', sc', rfl, _, _⟩ := hsr.cap
    have hbk : wr.heap[b]? = W.heap[b]? := HB.out.block b hbw
    have q0 := (World.cell?_of_block (w := W) (a := ⟨b, off + k * 6, none⟩) hbk).trans (hcv 0 _ rfl)
    have q1 := (World.cell?_of_block (w := W) (a := ⟨b, off + k * 6 + 1, none⟩) hbk).trans (hcv 1 _ rfl)
    have q2 := (World.cell?_of_block (w := W) (a := ⟨b, off + k * 6 + 2, none⟩) hbk).trans (hcv 2 _ rfl)
    have q3 := (World.cell?_of_block (w := W) (a := ⟨b, off + k * 6 + 3, none⟩) hbk).trans (hcv 3 _ rfl)
    have q4 := (World.cell?_of_block (w := W) (a := ⟨b, off + k * 6 + 4, none⟩) hbk).trans (hcv 4 _ rfl)
    have q5 := (World.cell?_of_block (w := W) (a := ⟨b, off + k * 6 + 5, none⟩) hbk).trans (hcv 5 _ rfl)
    have HDD := Lib.hid hD; clear hD
    have HTR := Lib.hid htr; clear htr
    have HSR := Lib.hid hsr; clear hsr
    have HCV := Lib.hid hcv; clear hcv
    have HBK := Lib.hid hbk; clear hbk
    clear hul
    go_wp2_with fail
    have e2 : ((wr.alloc (.cells #[.string v.name, .int .u64 v.id, .bool v.hidden, .bool v.ro, .slice tp' v.tags.length tc', .slice sp' v.segs.length sc'] 56)).alloc (.cells #[.string v.name, .int .u64 v.id, .bool v.hidden, .bool v.ro, .slice tp' v.tags.length tc', .slice sp' v.segs.length sc'] 56)).heap[wr.heap.size]? = some (.cells #[.string v.name, .int .u64 v.id, .bool v.hidden, .bool v.ro, .slice tp' v.tags.length tc', .slice sp' v.segs.length sc'] 56 (0, 0)) := (Below.heap_alloc _ _ _ (by simp)).trans (heap_alloc_new wr _)
    have e3 : ((wr.alloc (.cells #[.string v.name, .int .u64 v.id, .bool v.hidden, .bool v.ro, .slice tp' v.tags.length tc', .slice sp' v.segs.length sc'] 56)).alloc (.cells #[.string v.name, .int .u64 v.id, .bool v.hidden, .bool v.ro, .slice tp' v.tags.length tc', .slice sp' v.segs.length sc'] 56)).heap[wr.heap.size + 1]? = some (.cells #[.string v.name, .int .u64 v.id, .bool v.hidden, .bool v.ro, .slice tp' v.tags.length tc', .slice sp' v.segs.length sc'] 56 (0, 0)) := by
      have := heap_alloc_new (wr.alloc (.cells #[.string v.name, .int .u64 v.id, .bool v.hidden, .bool v.ro, .slice tp' v.tags.length tc', .slice sp' v.segs.length sc'] 56)) (.cells #[.string v.name, .int .u64 v.id, .bool v.hidden, .bool v.ro, .slice tp' v.tags.length tc', .slice sp' v.segs.length sc'] 56)
      rw [World.size_alloc] at this
      exact this
    have hbl : Below wr.heap.size wr ((wr.alloc (.cells #[.string v.name, .int .u64 v.id, .bool v.hidden, .bool v.ro, .slice tp' v.tags.length tc', .slice sp' v.segs.length sc'] 56)).alloc (.cells #[.string v.name, .int .u64 v.id, .bool v.hidden, .bool v.ro, .slice tp' v.tags.length tc', .slice sp' v.segs.length sc'] 56)) := ((Below.refl _ _).alloc (Nat.le_refl _) _).alloc (by simp) _
    have hz2 : ((wr.alloc (.cells #[.string v.name, .int .u64 v.id, .bool v.hidden, .bool v.ro, .slice tp' v.tags.length tc', .slice sp' v.segs.length sc'] 56)).alloc (.cells #[.string v.name, .int .u64 v.id, .bool v.hidden, .bool v.ro, .slice tp' v.tags.length tc', .slice sp' v.segs.length sc'] 56)).heap.size = wr.heap.size + 2 := by simp
    have E2 := Lib.hid e2; clear e2
    have E3 := Lib.hid e3; clear e3
    have HBL := Lib.hid hbl; clear hbl
    have HZ2 := Lib.hid hz2; clear hz2
    go_wp2_with fail
    clear q0 q1 q2 q3 q4 q5
    generalize hW2 : World.alloc (World.alloc wr _) _ = W2 at *
    clear hW2
    refine (All_any ⟨#[]⟩ 0 0 0 0 none none (some ⟨wr.heap.size + 1, 0, none⟩) none 0 0 0 0 1 1 0 0 W2).mono ?_
    rintro e w5 ⟨rfl, rfl⟩
    have hb5 := below_alloc W2 (.cells #[.string ⟨#[]⟩, .int .u64 0, .int .i64 0, .int .i64 0, .int .i64 0, .slice none 0 0, .slice none 0 0, .slice (some ⟨wr.heap.size + 1, 0, none⟩) 1 1, .slice none 0 0] 52)
    have HG5 := Lib.hid (heap_alloc_new W2 (.cells #[.string ⟨#[]⟩, .int .u64 0, .int .i64 0, .int .i64 0, .int .i64 0, .slice none 0 0, .slice none 0 0, .slice (some ⟨wr.heap.size + 1, 0, none⟩) 1 1, .slice none 0 0] 52))
    have HV5 := Lib.hid ((hb5.block _ (lt_of_block E2.out)).trans E2.out)
    have HX5 := Lib.hid ((hb5.block _ (lt_of_block E3.out)).trans E3.out)
    have HB5 := Lib.hid (HBL.out.trans (hb5.mono HBL.out.size))
    have HZ5 : Hid (W2.heap.size < (W2.alloc (.cells #[.string ⟨#[]⟩, .int .u64 0, .int .i64 0, .int .i64 0, .int .i64 0, .slice none 0 0, .slice none 0 0, .slice (some ⟨wr.heap.size + 1, 0, none⟩) 1 1, .slice none 0 0] 52)).heap.size) := Lib.hid (by simp)
    clear hb5
    go_wp2_with fail
    generalize hW5 : World.alloc W2 _ = W5 at *
    clear hW5
    have hw5 := HB5.out.size
    have hz2 := HZ2.out
    have hz5 := HZ5.out
    have hBW := HB.out.trans (HB5.out.mono hwz)
    have hMv : Mv ok (fun b => b < W5.heap.size) W W5 := ⟨hBW.size, fun b hb _ => ⟨Nat.lt_of_lt_of_le hb hBW.size, hBW.block b hb⟩⟩
    have hone : RdS vVol 6 (fun b => b < W5.heap.size) W5 [.slice (some ⟨wr.heap.size + 1, 0, none⟩) 1 1] [v] := RdS.one (u := [.string v.name, .int .u64 v.id, .bool v.hidden, .bool v.ro, .slice tp' v.tags.length tc', .slice sp' v.segs.length sc']) HX5.out (by omega) rfl ⟨_, _, rfl, (RdS.moves vStr.moves).mv hMv HTR.out, (RdS.moves vSeg.moves).mv hMv HSR.out⟩
    have htv : TameV [v] := fun x hx => by
      obtain rfl := List.mem_singleton.1 hx
      exact HT.out x (List.mem_of_getElem? HDD.out)
    refine owner_rf _ _ _ _ _ _ _ _ _ _ _ _ _ _ _ _ _ _ _ _ _ _ _ _ _ _ _ _ _ _ _ _ _ _ _ _ _ _ _ _ _ _ _ _ _ _ _ _ _ _ _ _ _ _ _ _ _ _ _ _ _ _ _ _ _ _ _ _ _ _ _ _  HG5.out rfl hone htv ((hBW.block _ (lt_of_block H4.out)).trans H4.out) ((hBW.block _ (lt_of_block H5.out)).trans H5.out) ((hBW.block _ (lt_of_block H10.out)).trans H10.out) ((hBW.block _ (lt_of_block H11.out)).trans H11.out) HV5.out hne ?_ ?_
    · intro D W' hD1 hD2 hD3 hD4
      have hN : ∀ x ∈ vols.take (k + 1), (volPieces x).any (hitF nm ex) = false := fun x hx => by
        rw [take_snoc' vols k v HDD.out] at hx
        rcases List.mem_append.1 hx with q | q
        · exact HNO.out x q
        · obtain rfl := List.mem_singleton.1 q
          rw [pieces_one] at hD4
          rw [List.any_eq_false]
          intro p hp
          rw [hD4 p hp]
          simp
      have hds : ∀ E ∈ D :: ds, W.heap.size ≤ E ∧ W'.heap[E]? = some (.deferred (some [])) := fun E hE => by
        rcases List.mem_cons.1 hE with rfl | q
        · exact ⟨by omega, hD2⟩
        · obtain ⟨a1, a2⟩ := HDF.out E q
          have hEl := (Array.getElem?_eq_some_iff.1 a2).1
          exact ⟨a1, (hD3.block E (by omega)).trans ((HB5.out.block E hEl).trans a2)⟩
      have hnd : (D :: ds).Nodup := List.nodup_cons.2 ⟨fun q => by
        have hEl := (Array.getElem?_eq_some_iff.1 (HDF.out D q).2).1
        omega, HND.out⟩
      have HN := Lib.hid hN; clear hN
      have HDS := Lib.hid hds; clear hds
      have HNN := Lib.hid hnd; clear hnd
      have HBZ := Lib.hid (hBW.trans (hD3.mono hBW.size))
      clear hD1 hD2 hD3 hD4 hone htv hMv hBW
      go_wp2
      refine HK.out _ _ (Go.Handed.intro (vols.length - (k + 1)) (by omega) (HJ.out _ _ _ ⟨k + 1, D :: ds, _, _, _, _, _, _, _, _, _, _, _, _, _, _, _, _, _, _, _, _, _, _, _, ⟨by go_num, rfl, by omega, HNN.out, HDS.out, HBZ.out, HN.out⟩, rfl⟩))
    · intro D W' hD1 hD2 hD3 k10 k11 hoth hbel
      have hlt10 := lt_of_block H10.out
      have hlt11 := lt_of_block H11.out
      have hr : ownRes vols nm ex = (v.name, true) := ownRes_at HDD.out HNO.out (by
        rw [pieces_one] at hD3
        rw [List.any_eq_true]
        exact hD3)
      have HST : Hid (OwnSt W.heap.size n1 B10 B11 W vols nm ex (D :: ds) W') := Lib.hid ⟨List.nodup_cons.2 ⟨fun q => by
        have hEl := (Array.getElem?_eq_some_iff.1 (HDF.out D q).2).1
        omega, HND.out⟩, fun E hE => by
        rcases List.mem_cons.1 hE with rfl | q
        · exact ⟨by omega, hD2⟩
        · obtain ⟨a1, a2⟩ := HDF.out E q
          have hEl := (Array.getElem?_eq_some_iff.1 a2).1
          exact ⟨a1, (hoth E (by omega) (by omega) (by omega)).trans ((HB5.out.block E hEl).trans a2)⟩, (hBW.mono hn).trans (hbel n1 hn10 hn11), by rw [hr]; exact k10, by rw [hr]; exact k11⟩
      clear hD1 hD2 hD3 k10 k11 hoth hbel hone htv hMv hBW hr
      go_wp2
      exact HD.out (D :: ds) W' _ _ _ _ _ _ _ _ _ _ _ _ _ _ _ _ _ _ _ _ _ _ _ HST.out
  · obtain rfl : k = vols.length := by omega
    have hz10 := HB.out.block _ (lt_of_block H10.out)
    have hz11 := HB.out.block _ (lt_of_block H11.out)
    have hr : ownRes vols nm ex = (⟨#[]⟩, false) := ownRes_none fun x hx => HNO.out x (by rw [List.take_length]; exact hx)
    have HZ : Hid (OwnSt W.heap.size n1 B10 B11 W vols nm ex ds wr) := Lib.hid ⟨HND.out, HDF.out, HB.out.mono hn, by rw [hr]; exact hz10.trans H10.out, by rw [hr]; exact hz11.trans H11.out⟩
    clear hr hz10 hz11
    go_wp2
    exact HD.out ds wr _ _ _ _ _ _ _ _ _ _ _ _ _ _ _ _ _ _ _ _ _ _ _ HZ.out

end Go.Proofs.Yteengifhndmjeaa
