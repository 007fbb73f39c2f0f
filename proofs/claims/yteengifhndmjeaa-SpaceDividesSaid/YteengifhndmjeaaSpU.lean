/- What all laws of ch. 14 begin with: a source and its group; SpaceSums. Used, Free, Owner of a group that was built, as the laws call them. -/
import Derived.Test.YteengifhndmjeaaSpT
import Derived.Test.YteengifhndmjeaaSpP
import Derived.Test.YteengifhndmjeaaSpR
namespace Go.Proofs.Yteengifhndmjeaa
open Go.RowKit

/-- What a group that was built reads as, as a value. -/
structure GrpV (ok : Nat → Prop) (W : World) (g : GroupM) (tp dp vp hp : Option Addr) (tc dc vc hc : Nat) : Prop where
  d : RdS vDisk 7 ok W [.slice dp g.disks.length dc] g.disks
  v : RdS vVol 6 ok W [.slice vp g.vols.length vc] g.vols
  b : Built g
theorem GrpV.below {ok : Nat → Prop} {W W' : World} {g : GroupM} {tp dp vp hp : Option Addr} {tc dc vc hc : Nat} (h : GrpV ok W g tp dp vp hp tc dc vc hc) (hb : Below W.heap.size W W') : GrpV ok W' g tp dp vp hp tc dc vc hc :=
  ⟨(RdS.moves vDisk.moves).mv ⟨hb.size, fun b h1 h2 => ⟨h2, hb.block b h1⟩⟩ h.d, (RdS.moves vVol.moves).mv ⟨hb.size, fun b h1 h2 => ⟨h2, hb.block b h1⟩⟩ h.v, h.b⟩

/-- Group behind New. -/
theorem GroupP.open {bs : Nat} {w0 w w' : World} {e : Ending} (hb0 : Below w0.heap.size w0 w) (hbs : w0.heap.size ≤ bs) (h : GroupP bs w e w') :
    ∃ (g : GroupM) (tp dp vp hp : Option Addr) (tc dc vc hc : Nat), e = .returned (.agg #[.string g.name, .int .u64 g.id, .int .i64 g.seq, .int .i64 g.extent, .int .i64 g.next, .slice tp g.tags.length tc, .slice dp g.disks.length dc, .slice vp g.vols.length vc, .slice hp g.history.length hc]) ∧
      GrpV (fun _ => True) w' g tp dp vp hp tc dc vc hc ∧ Below w0.heap.size w0 w' := by
  obtain ⟨g, t, d, v, h, rfl, ⟨t', d', v', h', e', h1, h2, h3, h4⟩, hB, hs, hst, hz, hk⟩ := h
  injection e' with _ e'
  injection e' with _ e'
  injection e' with _ e'
  injection e' with _ e'
  injection e' with _ e'
  injection e' with e1 e'
  injection e' with e2 e'
  injection e' with e3 e'
  injection e' with e4 _
  subst e1
  subst e2
  subst e3
  subst e4
  obtain ⟨tp, tc, rfl, _⟩ := h1.cap
  obtain ⟨dp, dc, rfl, _⟩ := h2.cap
  obtain ⟨vp, vc, rfl, _⟩ := h3.cap
  obtain ⟨hp, hc, rfl, _⟩ := h4.cap
  have hm : Mv (fun b => w.heap.size ≤ b) (fun _ => True) w' w' := ⟨Nat.le_refl _, fun b _ _ => ⟨trivial, rfl⟩⟩
  refine ⟨g, tp, dp, vp, hp, tc, dc, vc, hc, rfl, ⟨(RdS.moves vDisk.moves).mv hm h2, (RdS.moves vVol.moves).mv hm h3, hB⟩, ⟨hst.os.trans hb0.os, hst.tape.trans hb0.tape, hst.output.trans hb0.output, Nat.le_trans hb0.size hz, fun k q => ?_⟩⟩
  have := hb0.size
  exact (hk k (by omega) (by omega)).trans (hb0.block k q)

theorem pieces_lens {vols : List VolM} (h : TameV vols) : ∀ p ∈ pieces vols, 0 ≤ p.len ∧ p.len ≤ 1000000 := by
  intro p hp
  obtain ⟨v, hv, hp⟩ := List.mem_flatMap.1 hp
  obtain ⟨s, hs, hp⟩ := List.mem_flatMap.1 hp
  obtain ⟨_, a, _, rfl⟩ := mem_segPieces hp
  have hl := ((h v hv).2 s hs).1
  simp only [areaPiece, extN]
  split
  · exact ⟨Int.ediv_nonneg hl.1 (by omega), Int.le_trans (Int.ediv_le_self _ hl.1) hl.2⟩
  · exact hl
theorem sumLens_bd : ∀ l : List PieceM, (∀ p ∈ l, 0 ≤ p.len ∧ p.len ≤ 1000000) → 0 ≤ sumLens l ∧ sumLens l ≤ 1000000 * (l.length : Int)
  | [], _ => by simp [sumLens]
  | p :: l, h => by
    have h1 := h p (List.mem_cons_self ..)
    have h2 := sumLens_bd l fun q hq => h q (List.mem_cons_of_mem _ hq)
    simp only [sumLens, List.map_cons, List.sum_cons, List.length_cons] at h2 ⊢
    omega
theorem sumLens_snoc {l : List PieceM} {k : Nat} {x : PieceM} (h : l[k]? = some x) : sumLens (l.take (k + 1)) = sumLens (l.take k) + x.len := by
  rw [take_snoc' l k x h]
  simp [sumLens]

set_option maxRecDepth 100000 in
set_option maxHeartbeats 4000000 in
theorem spaceSums_any (l : List Int) (v : Value) (w : World) (hr : RdI w v l) (hl : ∀ x ∈ l, -9223372036854775808 ≤ x ∧ x ≤ 9223372036854775807) :
    Calls Try.prog 12 #[v] w fun e w' => e = .returned (.bool true) ∧ Below w.heap.size w w' := by
  have HR := Lib.hid hr; clear hr
  go_enter Try.func12, Try.ntmps12
  go_wp2_with fail
  refine (New_any l v w HR.out hl).mono ?_
  rintro e w1 ⟨rfl, hs1, _, hb1⟩
  go_wp2_with fail
  refine (Group_any w.heap.size w1 hs1).mono ?_
  intro e w2 hG
  obtain ⟨g, tp, dp, vp, hp, tc, dc, vc, hc, rfl, hg2, hb2⟩ := hG.open hb1 (Nat.le_refl _)
  clear hs1 hb1
  have ht := hg2.b.tame
  have hap := hg2.b.apart
  have bA := below_alloc w2 (.cells #[.string g.name, .int .u64 g.id, .int .i64 g.seq, .int .i64 g.extent, .int .i64 g.next, .slice tp g.tags.length tc, .slice dp g.disks.length dc, .slice vp g.vols.length vc, .slice hp g.history.length hc] 52)
  have HGB := Lib.hid (heap_alloc_new w2 (.cells #[.string g.name, .int .u64 g.id, .int .i64 g.seq, .int .i64 g.extent, .int .i64 g.next, .slice tp g.tags.length tc, .slice dp g.disks.length dc, .slice vp g.vols.length vc, .slice hp g.history.length hc] 52))
  have HG3 := Lib.hid (hg2.below bA)
  have HB3 := Lib.hid (hb2.trans (bA.mono hb2.size))
  have HT := Lib.hid ht; clear ht
  have HA := Lib.hid hap; clear hap
  clear hg2 hb2 bA
  go_wp2_with fail
  generalize hW3 : World.alloc w2 _ = W3 at *
  generalize hBg : w2.heap.size = Bg at *
  clear hW3 hBg
  refine (Places_any (ok := fun _ => True) g.name g.id g.seq g.extent g.next tp dp vp hp g.tags.length tc g.disks.length dc vc g.history.length hc g.vols W3 HG3.out.v (by have := HT.out.vl; omega) HT.out.tame (by have := HT.out.pn; omega)).mono ?_
  rintro e w4 ⟨v4, rfl, ho4, hb4⟩
  have hgb4 := (hb4.block _ (lt_of_block HGB.out)).trans HGB.out
  have HGB4 := Lib.hid hgb4; clear hgb4
  have HG4 := Lib.hid (HG3.out.below hb4)
  have HB4 := Lib.hid (HB3.out.trans (hb4.mono HB3.out.size))
  have hrd : RdS vPlace 4 (fun _ => True) w4 [v4] (pieces g.vols) := ho4.rd vPlace.moves (by decide) (fun _ _ _ => trivial) (fun _ _ => trivial)
  have hpn := HT.out.pn
  have HPB := Lib.hid (pieces_lens HT.out.tame)
  clear ho4 hb4
  obtain ⟨p4, c4, rfl, hc41, hc42⟩ := hrd.cap
  have HRD := Lib.hid hrd; clear hrd
  go_wp2
  go_loopw [4, 6] (fun vn vi wr => ∃ k : Nat, k ≤ (pieces g.vols).length ∧ vi = .int .i64 (k : Int) ∧ vn = .int .i64 (sumLens ((pieces g.vols).take k)) ∧ wr = w4) (fun _ vi _ => (pieces g.vols).length - (intOf vi).toNat)
  case atStart => exact ⟨0, Nat.zero_le _, rfl, by simp [sumLens], rfl⟩
  case round =>
    obtain ⟨k, hk, rfl, rfl, rfl⟩ := hrel
    have hbd := sumLens_bd ((pieces g.vols).take k) fun p hp => HPB.out p (List.mem_of_mem_take hp)
    have hbl : ((pieces g.vols).take k).length ≤ 1000 := by rw [List.length_take]; omega
    by_cases hlt : k < (pieces g.vols).length
    · obtain ⟨x, hx⟩ := getSome (pieces g.vols) k hlt
      obtain ⟨b, off, u, rfl, _, hbw, _, hv, hcv⟩ := HRD.out.elem hx
      obtain rfl : u = [.string x.vol, .string x.disk, .int .i64 x.start, .int .i64 x.len] := hv
      have q3 := hcv 3 _ rfl
      have hxl := HPB.out x (List.mem_of_getElem? hx)
      have HSN := Lib.hid (sumLens_snoc hx)
      clear hx hcv
      generalize hsum : sumLens ((pieces g.vols).take k) = sm at *
      have hx1 := hxl.1
      have hx2 := hxl.2
      have hs1 := hbd.1
      have hs2 : sm ≤ 1000000000 := by omega
      have hwr : IntKind.i64.wrap (sm + x.len) = sm + x.len := IntWalk.i64_in _ (by omega)
      clear hsum hbd hxl
      go_wp2
      go_roundw
      case rel => exact ⟨k + 1, by omega, by go_num, by rw [HSN.out], trivial⟩
      case measure => simp [intOf]; omega
    · obtain rfl : k = (pieces g.vols).length := by omega
      rw [List.take_length]
      have gL : ∀ (j : Nat) (z : Value), [.string g.name, .int .u64 g.id, .int .i64 g.seq, .int .i64 g.extent, .int .i64 g.next, .slice tp g.tags.length tc, .slice dp g.disks.length dc, .slice vp g.vols.length vc, .slice hp g.history.length hc][j]? = some z → wr.cell? ⟨Bg, j, none⟩ = some z := fun j z hz => by
        simp only [World.cell?, HGB4.out]
        simpa using hz
      have y0 := gL 0 _ rfl
      have y1 := gL 1 _ rfl
      have y2 := gL 2 _ rfl
      have y3 := gL 3 _ rfl
      have y4 := gL 4 _ rfl
      have y5 := gL 5 _ rfl
      have y6 := gL 6 _ rfl
      have y7 := gL 7 _ rfl
      have y8 := gL 8 _ rfl
      clear gL hbd hbl
      go_wp2_with fail
      clear y0 y1 y2 y3 y4 y5 y6 y7 y8
      refine (Total_any (ok := fun _ => True) g.name g.id g.seq g.extent g.next tp dp vp hp g.tags.length tc dc vc g.history.length hc g.disks g.vols wr HG4.out.d (by have := HT.out.dl; omega) HT.out.dtags (fun D hD => by have := HT.out.dext D hD; omega) HG4.out.v (by have := HT.out.vl; omega) HT.out.tame (fun p hp => by have := HT.out.ps p hp; omega) (by omega) HT.out.dfind).mono ?_
      rintro e w6 ⟨u, f, rfl, htot, hb6⟩
      have hu : u = sumLens (pieces g.vols) := htot.sums HA.out.2 HA.out.1 (fun D hD => (HT.out.dext D hD).1)
      subst hu
      have HB6 := Lib.hid (HB4.out.trans (hb6.mono HB4.out.size))
      clear htot hb6
      go_wp2_with fail
      refine (awake14_any _).mono ?_
      rintro e w7 ⟨rfl, hb7⟩
      have HB7 := Lib.hid (HB6.out.trans (hb7.mono HB6.out.size))
      clear hb7
      go_wp2
      go_ret
      exact ⟨rfl, HB7.out⟩

end Go.Proofs.Yteengifhndmjeaa

namespace Go.Proofs.Yteengifhndmjeaa
open Go.RowKit

structure Tame2 (disks : List DiskM) (vols : List VolM) : Prop where
  dl : disks.length ≤ 4
  dtags : ∀ D ∈ disks, D.tags.length ≤ 1000
  dext : ∀ D ∈ disks, 0 ≤ D.extents ∧ D.extents ≤ 60
  dfind : ∀ (i : Nat) (D : DiskM), disks[i]? = some D → findD disks D.name = some D
  vl : vols.length ≤ 44
  tame : TameV vols
  ps : ∀ p ∈ pieces vols, 0 ≤ p.start ∧ p.start ≤ 1000
  pn : (pieces vols).length ≤ 1000
theorem GTame.two {g : GroupM} (h : GTame g) : Tame2 g.disks g.vols := ⟨h.dl, h.dtags, h.dext, h.dfind, h.vl, h.tame, h.ps, h.pn⟩
theorem pieces_rev_len (vs : List VolM) : (pieces vs.reverse).length = (pieces vs).length := by
  have h : ∀ l : List VolM, (pieces l).length = (l.map fun v => (volPieces v).length).sum := fun l => by
    induction l with
    | nil => rfl
    | cons v l ih => simp only [pieces, List.flatMap_cons, List.length_append, List.map_cons, List.sum_cons] at ih ⊢; rw [ih]
  rw [h, h, List.map_reverse, List.sum_reverse]
theorem Tame2.rev {disks : List DiskM} {vols : List VolM} (h : Tame2 disks vols) : Tame2 disks vols.reverse :=
  ⟨h.dl, h.dtags, h.dext, h.dfind, by rw [List.length_reverse]; exact h.vl, fun v hv => h.tame v (List.mem_reverse.1 hv), fun p hp => h.ps p ((pieces_mem_congr (fun v => List.mem_reverse) p).1 hp), by rw [pieces_rev_len]; exact h.pn⟩

/-- What Used answers. -/
def UsR (D : DiskM) (ps : List PieceM) (n : Nat) (y z : Value) (w' : World) : Prop := z = .int .i64 0 ∧ ∃ x, OwnR w' n y x ∧ NFof x (Mem (usedR D.name D.extents ps)) ∧ x.length ≤ 1000 ∧ valB x = true
/-- What Free answers. -/
def FrR (D : DiskM) (ps : List PieceM) (n : Nat) (y z : Value) (w' : World) : Prop := z = .int .i64 0 ∧ ∃ x, OwnR w' n y x ∧ NFof x (fun m => (0 ≤ m ∧ m < D.extents) ∧ ¬ Mem (usedR D.name D.extents ps) m) ∧ x.length ≤ 3000 ∧ valB x = true

theorem used_call {ok : Nat → Prop} {name : ByteArray} {id seq ext nx : Int} {tp dp vp hp : Option Addr} {tl tc dc vc hl hc k nv : Nat} {disks : List DiskM} {vols : List VolM} {D : DiskM} {W : World} (hd : RdS vDisk 7 ok W [.slice dp disks.length dc] disks) (hv : RdS vVol 6 ok W [.slice vp nv vc] vols) (hnv : nv = vols.length) (T : Tame2 disks vols) (hD : disks[k]? = some D) :
    Calls Try.prog 33 #[.agg #[.string name, .int .u64 id, .int .i64 seq, .int .i64 ext, .int .i64 nx, .slice tp tl tc, .slice dp disks.length dc, .slice vp nv vc, .slice hp hl hc], .string D.name] W fun e w' => ∃ y z, e = .returned (.tuple #[y, z]) ∧ Below W.heap.size W w' ∧ UsR D (pieces vols) W.heap.size y z w' := by
  subst hnv
  refine (Used_any (ok := ok) name id seq ext nx tp dp vp hp tl tc dc vc hl hc disks vols D.name W hd (by have := T.dl; omega) T.dtags (fun E hE => by have := T.dext E hE; omega) hv (by have := T.vl; omega) T.tame (fun p hp => by have := T.ps p hp; omega) (by have := T.pn; omega)).mono ?_
  intro e w' h
  unfold UsedP at h
  rw [T.dfind k D hD] at h
  obtain ⟨y, x, rfl, h1, h2, h3, h4⟩ := h
  have hl := usedR_len D.name D.extents (pieces vols)
  have := T.pn
  exact ⟨y, _, rfl, h4, rfl, x, h1, h2, by omega, NFof_valB h2 (usedR_val (by have := T.dext D (List.mem_of_getElem? hD); omega))⟩

theorem free_call {ok : Nat → Prop} {name : ByteArray} {id seq ext nx : Int} {tp dp vp hp : Option Addr} {tl tc dc vc hl hc k nv : Nat} {disks : List DiskM} {vols : List VolM} {D : DiskM} {W : World} (hd : RdS vDisk 7 ok W [.slice dp disks.length dc] disks) (hv : RdS vVol 6 ok W [.slice vp nv vc] vols) (hnv : nv = vols.length) (T : Tame2 disks vols) (hD : disks[k]? = some D) :
    Calls Try.prog 34 #[.agg #[.string name, .int .u64 id, .int .i64 seq, .int .i64 ext, .int .i64 nx, .slice tp tl tc, .slice dp disks.length dc, .slice vp nv vc, .slice hp hl hc], .string D.name] W fun e w' => ∃ y z, e = .returned (.tuple #[y, z]) ∧ Below W.heap.size W w' ∧ FrR D (pieces vols) W.heap.size y z w' := by
  subst hnv
  refine (Free_any (ok := ok) name id seq ext nx tp dp vp hp tl tc dc vc hl hc disks vols D.name W hd (by have := T.dl; omega) T.dtags (fun E hE => by have := T.dext E hE; omega) hv (by have := T.vl; omega) T.tame (fun p hp => by have := T.ps p hp; omega) (by have := T.pn; omega)).mono ?_
  intro e w' h
  unfold FreeP at h
  rw [T.dfind k D hD] at h
  obtain ⟨y, x, rfl, h1, h2, h3, h4, h5⟩ := h
  have := T.pn
  exact ⟨y, _, rfl, h5, rfl, x, h1, h2, by omega, h3⟩

/-- What Owner answers. -/
def OwR (D : DiskM) (ps : List PieceM) (m : Int) (_n : Nat) (_y z : Value) (_w' : World) : Prop := z = .bool (inB (usedR D.name D.extents ps) m)
theorem hit_used {D : DiskM} {vols : List VolM} (ht : TameV vols) (hps : ∀ p ∈ pieces vols, 0 ≤ p.start ∧ p.start ≤ 1000) {m : Int} (h0 : 0 ≤ m) (h1 : m < D.extents) (h2 : D.extents ≤ 60) : (ownRes vols D.name m).2 = inB (usedR D.name D.extents (pieces vols)) m := by
  have hh : ∀ p ∈ pieces vols, hitF D.name m p = decide (p.disk = D.name ∧ p.start ≤ m ∧ m < p.start + p.len) := fun p hp => by
    have a := hps p hp
    have b := pieces_lens ht p hp
    unfold hitF
    rw [hasF_eq a.1 (by omega) b.1 b.2 h0 (by omega), ← Bool.decide_and]
  have hm : Mem (usedR D.name D.extents (pieces vols)) m ↔ ∃ p ∈ pieces vols, hitF D.name m p = true := by
    constructor
    · rintro ⟨q, hq, q1, q2⟩
      rw [mem_usedR_iff] at hq
      obtain ⟨x, hx, c, rfl⟩ := hq
      refine ⟨x, hx, ?_⟩
      rw [hh x hx, decide_eq_true_eq]
      dsimp only at q1 q2
      exact ⟨c.1, q1, by omega⟩
    · rintro ⟨p, hp, e⟩
      rw [hh p hp, decide_eq_true_eq] at e
      have a := hps p hp
      refine ⟨_, mem_usedR_iff.2 ⟨p, hp, ⟨e.1, a.1, by omega, by omega⟩, rfl⟩, ?_, ?_⟩
      · exact e.2.1
      · dsimp only; omega
  unfold ownRes
  cases hf : vols.find? (fun v => (volPieces v).any (hitF D.name m)) with
  | none =>
    rw [List.find?_eq_none] at hf
    refine (Bool.eq_false_iff.2 fun q => ?_).symm
    obtain ⟨p, hp, e⟩ := hm.1 ((inB_iff _ _).1 q)
    obtain ⟨v, hv, hp⟩ := List.mem_flatMap.1 hp
    exact hf v hv (List.any_eq_true.2 ⟨p, hp, e⟩)
  | some v =>
    have hv := List.mem_of_find?_eq_some hf
    have he := List.find?_some hf
    obtain ⟨p, hp, e⟩ := List.any_eq_true.1 he
    exact ((inB_iff _ _).2 (hm.2 ⟨p, List.mem_flatMap.2 ⟨v, hv, hp⟩, e⟩)).symm

theorem owner_call {ok : Nat → Prop} {name : ByteArray} {id seq ext nx : Int} {tp dp vp hp : Option Addr} {tl tc dc vc hl hc k nv : Nat} {disks : List DiskM} {vols : List VolM} {D : DiskM} {W : World} {m : Nat} (hd : RdS vDisk 7 ok W [.slice dp disks.length dc] disks) (hv : RdS vVol 6 ok W [.slice vp nv vc] vols) (hnv : nv = vols.length) (T : Tame2 disks vols) (hD : disks[k]? = some D) (hm : (m : Int) < D.extents) :
    Calls Try.prog 37 #[.agg #[.string name, .int .u64 id, .int .i64 seq, .int .i64 ext, .int .i64 nx, .slice tp tl tc, .slice dp disks.length dc, .slice vp nv vc, .slice hp hl hc], .string D.name, .int .i64 (m : Int)] W fun e w' => ∃ y z, e = .returned (.tuple #[y, z]) ∧ Below W.heap.size W w' ∧ OwR D (pieces vols) m W.heap.size y z w' := by
  subst hnv
  refine (Owner_any (ok := ok) name id seq ext nx tp dp vp hp tl tc dc vc hl hc disks vols D.name m W hd (by have := T.dl; omega) T.dtags hv (by have := T.vl; omega) T.tame).mono ?_
  rintro e w' ⟨rfl, hb⟩
  refine ⟨_, _, rfl, hb, ?_⟩
  unfold OwR ownerR
  rw [T.dfind k D hD]
  dsimp only
  rw [if_pos ⟨by omega, hm⟩, hit_used T.tame T.ps (by omega) hm (T.dext D (List.mem_of_getElem? hD)).2]

theorem used_free_val {D : DiskM} {S : Int → Prop} {x y : List (Int × Int)} (hx : NFof x S) (hy : NFof y (fun n => (0 ≤ n ∧ n < D.extents) ∧ ¬ S n)) : ∀ n, Mem y n → ¬ Mem x n := fun n h q => ((hy.2 n).1 h).2 ((hx.2 n).1 q)

end Go.Proofs.Yteengifhndmjeaa
