/- What Group builds is tame. The pieces of what Group builds: where they begin, how many there are. What the laws need of a group that was built. Bounds on numbers of elements. -/
import Derived.Test.YteengifhndmjeaaSpE
import Derived.Test.YteengifhndmjeaaMkS
namespace Go.Proofs.Yteengifhndmjeaa
open Go.RowKit

def SegOk (s : SegM) : Prop := (0 ≤ s.length ∧ s.length ≤ 1000000) ∧ s.areas.length ≤ 1000 ∧ (onDisk s → ∀ a ∈ s.areas, a.vol = false)
def VolOk (v : VolM) : Prop := v.segs.length ≤ 1000 ∧ ∀ s ∈ v.segs, SegOk s
theorem segOk_lin (n : Int) (on : ByteArray) (s : Int) (h : 0 ≤ n ∧ n ≤ 1000) : SegOk (linSeg n on s) := ⟨by simp only [linSeg]; omega, by simp [linSeg], fun _ a ha => by
  obtain rfl : a = ⟨false, on, s⟩ := by simpa [linSeg] using ha
  rfl⟩
theorem volOk_lin (name : ByteArray) (id : Int) (hd : Bool) (n : Int) (on : ByteArray) (s : Int) (h : 0 ≤ n ∧ n ≤ 1000) : VolOk (linVol name id hd n on s) := ⟨by simp [linVol], fun x hx => by
  obtain rfl : x = linSeg n on s := by simpa [linVol] using hx
  exact segOk_lin n on s h⟩
theorem MoreS.ok {l l' : List SegM} (h : MoreS l l') (hl : ∀ s ∈ l, SegOk s) : ∀ s ∈ l', SegOk s := by
  induction h with
  | nil => exact hl
  | void _ hn hk ih =>
    intro s hs
    rcases List.mem_append.1 hs with q | q
    · exact ih s q
    · obtain rfl := List.mem_singleton.1 q
      exact ⟨by simp only [addSeg]; omega, by simp [addSeg], fun _ a ha => by simp [addSeg] at ha⟩
  | lin _ hn ih =>
    intro s hs
    rcases List.mem_append.1 hs with q | q
    · exact ih s q
    · obtain rfl := List.mem_singleton.1 q
      refine ⟨by simp only [addSeg]; omega, by simp [addSeg], fun _ a ha => ?_⟩
      simp only [addSeg, List.mem_cons, List.not_mem_nil, or_false] at ha
      rw [ha]
  | move _ hn _ ih =>
    intro s hs
    rcases List.mem_append.1 hs with q | q
    · exact ih s q
    · obtain rfl := List.mem_singleton.1 q
      refine ⟨by simp only [addSeg]; omega, by simp [addSeg], fun _ a ha => ?_⟩
      simp only [addSeg, List.mem_cons, List.not_mem_nil, or_false] at ha
      rcases ha with rfl | rfl <;> rfl
theorem HidV.ok {id c : Int} {ns : List ByteArray} {ls : List Int} {ps : List (ByteArray × Int × Int)} {vl : List VolM} (h : HidV id c ns ls ps vl) (hl : ∀ l ∈ ls, 1 ≤ l ∧ l ≤ 1000) : ∀ v ∈ vl, VolOk v := by
  induction h with
  | nil => intro v hv; cases hv
  | snoc h ih =>
    intro v hv
    rcases List.mem_append.1 hv with q | q
    · exact ih (fun l hl' => hl l (List.mem_append_left _ hl')) v q
    · obtain rfl := List.mem_singleton.1 q
      have := hl _ (List.mem_append_right _ (List.mem_singleton.2 rfl))
      exact volOk_lin _ _ _ _ _ _ (by omega)
theorem Thins.ok {id : Int} {name : ByteArray} {k : Nat} {c : Int} {j : Nat} {tl : List VolM} (h : Thins id name k c j tl) : ∀ v ∈ tl, VolOk v := by
  induction h with
  | nil => intro v hv; cases hv
  | snoc h hl ih =>
    intro v hv
    rcases List.mem_append.1 hv with q | q
    · exact ih v q
    · obtain rfl := List.mem_singleton.1 q
      refine ⟨by simp [thinVol], fun s hs => ?_⟩
      obtain rfl := List.mem_singleton.1 hs
      exact ⟨by dsimp only; omega, by simp, fun _ a ha => by simp at ha⟩
theorem CompR.seg {e n : Int} {name : ByteArray} {kind : Int} {names : List ByteArray} {lengths : List Int} {x : SegM} (h : CompR e n name kind names lengths x) (hn : 1 ≤ n ∧ n ≤ 3) : SegOk x := by
  have nd : ∀ k : Int, k = 3 ∨ k = 4 ∨ k = 5 ∨ k = 7 → ¬ (k = 1 ∨ k = 2 ∨ k = 8) := fun k h => by omega
  cases h with
  | mirror k hk c hc st hst => exact ⟨by dsimp only; omega, by simp [volA, legNames]; omega, fun q => absurd q (nd 3 (by omega))⟩
  | mirrorLog k hk c hc st hst => exact ⟨by dsimp only; omega, by simp [volA, legNames]; omega, fun q => absurd q (nd 3 (by omega))⟩
  | parity k hk c hc =>
    refine ⟨?_, by simp [volA, legNames]; omega, fun q => absurd q (nd 4 (by omega))⟩
    dsimp only
    rcases (show n = 1 ∨ n = 2 ∨ n = 3 by omega) with rfl | rfl | rfl <;> omega
  | pool l c hl hc => exact ⟨by dsimp only; omega, by simp [volA], fun q => absurd q (nd 5 (by omega))⟩
  | cache l m c hl hm hc => exact ⟨by dsimp only; omega, by simp [volA], fun q => absurd q (nd 7 (by omega))⟩
theorem StepG.ok {name : ByteArray} {g g' : GroupM} {next next' : List Int} (h : StepG name g next g' next') (he : 1 ≤ g.extent ∧ g.extent ≤ 16) (hv : ∀ v ∈ g.vols, VolOk v) : ∀ v ∈ g'.vols, VolOk v := by
  cases h with
  | linF => exact hv
  | lin hn h1 hm hl h2 hs =>
    intro v hv'
    rcases List.mem_append.1 hv' with q | q
    · exact hv v q
    · obtain rfl := List.mem_singleton.1 q
      exact ⟨by dsimp only; omega, hm.ok fun s hs => by obtain rfl := List.mem_singleton.1 hs; exact segOk_lin _ _ _ (by omega)⟩
  | strF h => exact hv
  | @str k n al next' hk hn hl ha h =>
    intro v hv'
    rcases List.mem_append.1 hv' with q | q
    · exact hv v q
    · obtain rfl := List.mem_singleton.1 q
      refine ⟨by simp [strVol], fun s hs => ?_⟩
      obtain rfl := List.mem_singleton.1 hs
      refine ⟨?_, by simp only [strSeg]; omega, fun _ a h => ha a (by simpa [strSeg] using h)⟩
      simp only [strSeg]
      rcases (show n = 1 ∨ n = 2 by omega) with rfl | rfl <;> omega
  | compF h => exact hv
  | comp hkind hn hR hH hT ht hk hk5 hth =>
    intro v hv'
    have hl := (hR.ok he.1 he.2 hn.1 hn.2).2.2
    rcases List.mem_append.1 hv' with q | q
    · rcases List.mem_append.1 q with q | q
      · rcases List.mem_append.1 q with q | q
        · exact hv v q
        · exact hH.ok hl v q
      · obtain rfl := List.mem_singleton.1 q
        exact ⟨by simp, fun s hs => by obtain rfl := List.mem_singleton.1 hs; exact hR.seg hn⟩
    · exact hth.ok v q
theorem GSteps.ok {c : Nat} {g0 : GroupM} {n0 : List Int} (h0 : g0.vols = [] ∧ g0.next = 0) (he : 1 ≤ g0.extent ∧ g0.extent ≤ 16) (hd : DOk g0.disks n0) {i : Nat} {g : GroupM} {next : List Int} (h : GSteps c g0 n0 i g next) : ∀ v ∈ g.vols, VolOk v := by
  induction h with
  | nil => rw [h0.1]; intro v hv; cases hv
  | @step i g g' next next' h hs ih => exact hs.ok (by rw [(GSteps.bd h0 he hd h).same.2.2.2.1]; exact he) ih

end Go.Proofs.Yteengifhndmjeaa

namespace Go.Proofs.Yteengifhndmjeaa
open Go.RowKit

theorem Took.bd {disks : List DiskM} {a b : List Int} {ps : List (ByteArray × Int × Int)} (h : Took disks a ps b) (k : DOk disks a) : ∀ q ∈ ps, 0 ≤ q.2.1 ∧ q.2.1 ≤ 1000 := by
  induction h with
  | nil => intro q hq; cases hq
  | snoc h hd hm h1 h2 h3 ih =>
    intro q hq
    rcases List.mem_append.1 hq with q1 | q1
    · exact ih q q1
    · obtain rfl := List.mem_singleton.1 q1
      have := (h.ok k).nx _ _ hm
      have := (h.ok k).ext _ (List.mem_of_getElem? hd)
      dsimp only
      omega
theorem MoreS.tail {l l' : List SegM} (h : MoreS l l') : ∃ r, l' = l ++ r ∧ ∀ x ∈ r, x.kind ≠ 2 ∧ x.areas.length ≤ 2 := by
  induction h with
  | nil => exact ⟨[], by simp, fun x hx => by cases hx⟩
  | @void l' n kind _ hn hk ih =>
    obtain ⟨r, e, h⟩ := ih
    refine ⟨r ++ [addSeg (sumLen l') n kind [] 0], by rw [e, List.append_assoc], fun x hx => ?_⟩
    rcases List.mem_append.1 hx with q | q
    · exact h x q
    · obtain rfl := List.mem_singleton.1 q
      exact ⟨by simp only [addSeg]; omega, by simp [addSeg]⟩
  | @lin l' n s on _ hn ih =>
    obtain ⟨r, e, h⟩ := ih
    refine ⟨r ++ [addSeg (sumLen l') n 1 [⟨false, on, s⟩] 0], by rw [e, List.append_assoc], fun x hx => ?_⟩
    rcases List.mem_append.1 hx with q | q
    · exact h x q
    · obtain rfl := List.mem_singleton.1 q
      exact ⟨by simp [addSeg], by simp [addSeg]⟩
  | @move l' n s s' dn on on' _ hn hd ih =>
    obtain ⟨r, e, h⟩ := ih
    refine ⟨r ++ [addSeg (sumLen l') n 8 [⟨false, on, s⟩, ⟨false, on', s'⟩] dn], by rw [e, List.append_assoc], fun x hx => ?_⟩
    rcases List.mem_append.1 hx with q | q
    · exact h x q
    · obtain rfl := List.mem_singleton.1 q
      exact ⟨by simp [addSeg], by simp [addSeg]⟩

def PcOk (v : VolM) : Prop := (∀ p ∈ volPieces v, 0 ≤ p.start ∧ p.start ≤ 1000) ∧ (volPieces v).length ≤ 12
theorem segPieces_len (name : ByteArray) (s : SegM) : (segPieces name s).length ≤ s.areas.length := by
  unfold segPieces
  split <;> simp
theorem mem_segPieces {name : ByteArray} {s : SegM} {p : PieceM} (h : p ∈ segPieces name s) : onDisk s ∧ ∃ a ∈ s.areas, p = areaPiece name s a := by
  unfold segPieces at h
  split at h
  · rename_i ho
    obtain ⟨a, ha, rfl⟩ := List.mem_map.1 h
    exact ⟨ho, a, ha, rfl⟩
  · cases h
theorem flatMap_len {α β : Type} (f : α → List β) (m : Nat) : ∀ l : List α, (∀ x ∈ l, (f x).length ≤ m) → (l.flatMap f).length ≤ l.length * m
  | [], _ => by simp
  | x :: l, h => by
    have h1 := h x (List.mem_cons_self ..)
    have h2 := flatMap_len f m l fun y hy => h y (List.mem_cons_of_mem _ hy)
    rw [List.flatMap_cons, List.length_append, List.length_cons, Nat.add_mul]
    omega
theorem pcOk_none {v : VolM} (h : ∀ s ∈ v.segs, ¬ onDisk s) : PcOk v := by
  have e : volPieces v = [] := List.eq_nil_iff_forall_not_mem.2 fun p hp => by
    obtain ⟨s, hs, hp⟩ := List.mem_flatMap.1 hp
    exact h s hs (mem_segPieces hp).1
  exact ⟨(by rw [e]; intro p hp; cases hp), (by rw [e]; simp)⟩
theorem pcOk_lin (name : ByteArray) (id : Int) (hd : Bool) (n : Int) (on : ByteArray) (s : Int) (h : 0 ≤ s ∧ s ≤ 1000) : PcOk (linVol name id hd n on s) := by
  refine ⟨fun p hp => ?_, ?_⟩
  · obtain ⟨x, hx, hp⟩ := List.mem_flatMap.1 hp
    obtain rfl := List.mem_singleton.1 hx
    obtain ⟨_, a, ha, rfl⟩ := mem_segPieces hp
    obtain rfl := List.mem_singleton.1 ha
    exact h
  · have := flatMap_len (segPieces name) 1 [linSeg n on s] fun x hx => by obtain rfl := List.mem_singleton.1 hx; exact segPieces_len _ _
    exact Nat.le_trans this (by simp)
theorem HidV.pc {id c : Int} {ns : List ByteArray} {ls : List Int} {ps : List (ByteArray × Int × Int)} {vl : List VolM} (h : HidV id c ns ls ps vl) (hl : ∀ q ∈ ps, 0 ≤ q.2.1 ∧ q.2.1 ≤ 1000) : ∀ v ∈ vl, PcOk v := by
  induction h with
  | nil => intro v hv; cases hv
  | snoc h ih =>
    intro v hv
    rcases List.mem_append.1 hv with q | q
    · exact ih (fun l hl' => hl l (List.mem_append_left _ hl')) v q
    · obtain rfl := List.mem_singleton.1 q
      exact pcOk_lin _ _ _ _ _ _ (hl _ (List.mem_append_right _ (List.mem_singleton.2 rfl)))
theorem Thins.pc {id : Int} {name : ByteArray} {k : Nat} {c : Int} {j : Nat} {tl : List VolM} (h : Thins id name k c j tl) : ∀ v ∈ tl, PcOk v := by
  induction h with
  | nil => intro v hv; cases hv
  | snoc h hl ih =>
    intro v hv
    rcases List.mem_append.1 hv with q | q
    · exact ih v q
    · obtain rfl := List.mem_singleton.1 q
      refine pcOk_none fun s hs => ?_
      obtain rfl := List.mem_singleton.1 hs
      rintro (q | q | q) <;> simp at q
theorem StepG.pc {name : ByteArray} {g g' : GroupM} {next next' : List Int} (h : StepG name g next g' next') (hk : DOk g.disks next) (hv : ∀ v ∈ g.vols, PcOk v) : ∀ v ∈ g'.vols, PcOk v := by
  cases h with
  | linF => exact hv
  | @lin n s on next1 next' segs ps hn h1 hm hl h2 hs =>
    intro v hv'
    rcases List.mem_append.1 hv' with q | q
    · exact hv v q
    · obtain rfl := List.mem_singleton.1 q
      obtain ⟨r, e, hr⟩ := hm.tail
      subst e
      have b1 := h1.bd hk _ (List.mem_singleton.2 rfl)
      have b2 := h2.bd (h1.ok hk)
      simp only [List.length_append, List.length_cons, List.length_nil] at hl
      refine ⟨fun p hp => ?_, ?_⟩
      · obtain ⟨x, hx, hp⟩ := List.mem_flatMap.1 hp
        obtain ⟨ho, a, ha, rfl⟩ := mem_segPieces hp
        rcases List.mem_append.1 hx with hx | hx
        · obtain rfl := List.mem_singleton.1 hx
          obtain rfl := List.mem_singleton.1 ha
          exact b1
        · have hk2 := (hr x hx).1
          have hkk : x.kind = 1 ∨ x.kind = 8 := by
            rcases ho with q | q | q
            · exact .inl q
            · exact absurd q hk2
            · exact .inr q
          refine b2 (a.on, a.start, x.length) (hs.subset ?_)
          refine List.mem_flatMap.2 ⟨x, hx, ?_⟩
          unfold segPs
          rw [if_pos hkk]
          exact List.mem_map.2 ⟨a, ha, rfl⟩
      · have := flatMap_len (segPieces name) 2 ([linSeg n on s] ++ r) fun x hx => by
          refine Nat.le_trans (segPieces_len _ _) ?_
          rcases List.mem_append.1 hx with hx | hx
          · obtain rfl := List.mem_singleton.1 hx
            simp [linSeg]
          · exact (hr x hx).2
        refine Nat.le_trans this ?_
        simp only [List.length_append, List.length_cons, List.length_nil]
        omega
  | strF h => exact hv
  | @str k n al next' hk' hn hl ha h =>
    intro v hv'
    rcases List.mem_append.1 hv' with q | q
    · exact hv v q
    · obtain rfl := List.mem_singleton.1 q
      have b := h.bd hk
      refine ⟨fun p hp => ?_, ?_⟩
      · obtain ⟨x, hx, hp⟩ := List.mem_flatMap.1 hp
        obtain rfl := List.mem_singleton.1 hx
        obtain ⟨_, a, ha', rfl⟩ := mem_segPieces hp
        exact b (a.on, a.start, n) (List.mem_map.2 ⟨a, by simpa [strSeg] using ha', rfl⟩)
      · have := flatMap_len (segPieces name) 3 [strSeg k n al] fun x hx => by
          obtain rfl := List.mem_singleton.1 hx
          refine Nat.le_trans (segPieces_len _ _) ?_
          simp only [strSeg]
          omega
        exact Nat.le_trans this (by simp)
  | compF h => exact hv
  | comp hkind hn hR hH hT ht hk' hk5 hth =>
    intro v hv'
    rcases List.mem_append.1 hv' with q | q
    · rcases List.mem_append.1 q with q | q
      · rcases List.mem_append.1 q with q | q
        · exact hv v q
        · exact hH.pc (hT.bd hk) v q
      · obtain rfl := List.mem_singleton.1 q
        refine pcOk_none fun s hs => ?_
        obtain rfl := List.mem_singleton.1 hs
        cases hR <;> (rintro (q | q | q) <;> simp at q)
    · exact hth.pc v q
theorem GSteps.pc {c : Nat} {g0 : GroupM} {n0 : List Int} (h0 : g0.vols = [] ∧ g0.next = 0) (he : 1 ≤ g0.extent ∧ g0.extent ≤ 16) (hd : DOk g0.disks n0) {i : Nat} {g : GroupM} {next : List Int} (h : GSteps c g0 n0 i g next) : ∀ v ∈ g.vols, PcOk v := by
  induction h with
  | nil => rw [h0.1]; intro v hv; cases hv
  | @step i g g' next next' h hs ih =>
    have b := GSteps.bd h0 he hd h
    exact hs.pc (by rw [b.same.2.2.2.2.2.1]; exact b.dk) ih

end Go.Proofs.Yteengifhndmjeaa

namespace Go.Proofs.Yteengifhndmjeaa
open Go.RowKit

structure GTame (g : GroupM) : Prop where
  dl : g.disks.length ≤ 4
  dtags : ∀ D ∈ g.disks, D.tags.length ≤ 1000
  dext : ∀ D ∈ g.disks, 0 ≤ D.extents ∧ D.extents ≤ 60
  dfind : ∀ (i : Nat) (D : DiskM), g.disks[i]? = some D → findD g.disks D.name = some D
  vl : g.vols.length ≤ 44
  tame : TameV g.vols
  ps : ∀ p ∈ pieces g.vols, 0 ≤ p.start ∧ p.start ≤ 1000
  pn : (pieces g.vols).length ≤ 1000

theorem pv_inj {i j : Nat} (hi : i ≤ 3) (hj : j ≤ 3) (h : pvT ++ digit i = pvT ++ digit j) : i = j := by
  have h2 := congrArg (fun b : ByteArray => b.data.toList) h
  rcases (show i = 0 ∨ i = 1 ∨ i = 2 ∨ i = 3 by omega) with rfl | rfl | rfl | rfl <;> rcases (show j = 0 ∨ j = 1 ∨ j = 2 ∨ j = 3 by omega) with rfl | rfl | rfl | rfl <;> first | rfl | (exfalso; revert h2; decide)

theorem Built.tame {g : GroupM} (h : Built g) : GTame g := by
  obtain ⟨c, g0, g1, next, hc, _, _, _, hext, hn0, _, hv0, _, hdl, hdk, hgs, hg, _, _⟩ := h.ex
  have hex : 1 ≤ g0.extent ∧ g0.extent ≤ 16 := by
    simp only [List.mem_cons, List.not_mem_nil, or_false] at hext
    omega
  have hde : ∀ D ∈ g0.disks, 0 ≤ D.extents ∧ D.extents ≤ 60 := fun D hD => by
    obtain ⟨k, hk⟩ := List.getElem?_of_mem hD
    have := (hdk k D hk).ext
    simp only [List.mem_cons, List.not_mem_nil, or_false] at this
    omega
  have hdo : DOk g0.disks (List.replicate g0.disks.length 0) := ⟨by simp, by omega, by omega, fun D hD => by have := hde D hD; omega, fun d m hm => by
    have := List.mem_of_getElem? hm
    rw [List.mem_replicate] at this
    omega⟩
  have b := GSteps.bd ⟨hv0, hn0⟩ hex hdo hgs
  have ok := GSteps.ok ⟨hv0, hn0⟩ hex hdo hgs
  have pc := GSteps.pc ⟨hv0, hn0⟩ hex hdo hgs
  have ed : g.disks = g0.disks := by rw [hg]; exact b.same.2.2.2.2.2.1
  have ev : g.vols = g1.vols := by rw [hg]
  have hvl := b.vols
  have hvl2 : g1.vols.length ≤ 44 := by omega
  refine ⟨by rw [ed]; omega, fun D hD => ?_, fun D hD => hde D (ed ▸ hD), fun i D hD => ?_, by rw [ev]; exact hvl2, by rw [ev]; exact ok, fun p hp => ?_, ?_⟩
  · rw [ed] at hD
    obtain ⟨k, hk⟩ := List.getElem?_of_mem hD
    have := (hdk k D hk).tags.length_le
    have e : tagL.length = 4 := rfl
    omega
  · rw [ed] at hD ⊢
    have hi := (List.getElem?_eq_some_iff.1 hD).1
    refine find_at (k := i) (fun j E hj hE e => ?_) hD rfl
    rw [(hdk j E hE).name, (hdk i D hD).name] at e
    have := pv_inj (by omega) (by omega) e
    omega
  · rw [ev] at hp
    obtain ⟨v, hv, hp⟩ := List.mem_flatMap.1 hp
    exact (pc v hv).1 p hp
  · rw [ev]
    have := flatMap_len volPieces 12 g1.vols fun v hv => (pc v hv).2
    unfold pieces
    omega

end Go.Proofs.Yteengifhndmjeaa

namespace Go.Proofs.Yteengifhndmjeaa
open Go.RowKit

theorem sumR_bd : ∀ (x : List (Int × Int)) (lo hi : Int), lo ≤ hi → (∀ p ∈ x, 1 ≤ p.2) → x.Pairwise (fun p q => p.1 + p.2 < q.1) → (∀ p ∈ x, lo ≤ p.1 ∧ p.1 + p.2 ≤ hi) → 0 ≤ sumR x ∧ sumR x ≤ hi - lo
  | [], lo, hi, h, _, _, _ => by simp [sumR]; omega
  | p :: l, lo, hi, h, h1, h2, h3 => by
    have b := h3 p (List.mem_cons_self ..)
    have c := h1 p (List.mem_cons_self ..)
    rw [List.pairwise_cons] at h2
    have := sumR_bd l (p.1 + p.2) hi (by omega) (fun q hq => h1 q (List.mem_cons_of_mem _ hq)) h2.2 (fun q hq => ⟨by have := h2.1 q hq; omega, (h3 q (List.mem_cons_of_mem _ hq)).2⟩)
    simp only [sumR, List.map_cons, List.sum_cons] at this ⊢
    omega
theorem NFof.sum_bd {x : List (Int × Int)} {S : Int → Prop} {ext : Int} (h : NFof x S) (he : 0 ≤ ext) (hS : ∀ n, S n → 0 ≤ n ∧ n < ext) : 0 ≤ sumR x ∧ sumR x ≤ ext := by
  have := sumR_bd x 0 ext he h.1.1 h.1.2 fun p hp => by
    have c := h.1.1 p hp
    have h1 := hS _ ((h.2 p.1).1 ⟨p, hp, by omega, by omega⟩)
    have h2 := hS _ ((h.2 (p.1 + p.2 - 1)).1 ⟨p, hp, by omega, by omega⟩)
    omega
  omega
theorem mem_usedR {nm : ByteArray} {ext : Int} {ps : List PieceM} {n : Int} (h : Mem (usedR nm ext ps) n) : 0 ≤ n ∧ n < ext := by
  obtain ⟨p, hp, h1, h2⟩ := h
  have := usedR_bd p hp
  omega

end Go.Proofs.Yteengifhndmjeaa
