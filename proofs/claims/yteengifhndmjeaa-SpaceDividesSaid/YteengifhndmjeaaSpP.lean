/- space.Total. What is used does not depend on the order of the volumes. The pieces of what Group builds are among the areas that were taken, and so lie apart. -/
import Derived.Test.YteengifhndmjeaaSpG
import Derived.Test.YteengifhndmjeaaRanP
namespace Go.Proofs.Yteengifhndmjeaa
open Go.RowKit

/-- Sums over the first disks. -/
inductive TotR (disks : List DiskM) (vols : List VolM) : Nat → Int → Int → Prop
  | nil : TotR disks vols 0 0 0
  | snoc {k : Nat} {u f : Int} {D : DiskM} {x y : List (Int × Int)} (h : TotR disks vols k u f) (hD : disks[k]? = some D) (hx : NFof x (Mem (usedR D.name D.extents (pieces vols)))) (hy : NFof y (fun n => (0 ≤ n ∧ n < D.extents) ∧ ¬ Mem (usedR D.name D.extents (pieces vols)) n)) : TotR disks vols (k + 1) (u + sumR x) (f + sumR y)

set_option maxRecDepth 100000 in
set_option maxHeartbeats 4000000 in
theorem Total_any {ok : Nat → Prop} (name : ByteArray) (id seq ext nx : Int) (tp dp vp hp : Option Addr) (tl tc dc vc hl hc : Nat) (disks : List DiskM) (vols : List VolM) (w : World) (hr : RdS vDisk 7 ok w [.slice dp disks.length dc] disks) (hd : disks.length ≤ 1000) (htg : ∀ D ∈ disks, D.tags.length ≤ 1000) (hde : ∀ D ∈ disks, 0 ≤ D.extents ∧ D.extents ≤ 1000000)
    (hv : RdS vVol 6 ok w [.slice vp vols.length vc] vols) (hvl : vols.length ≤ 1000) (ht : TameV vols) (hps : ∀ p ∈ pieces vols, 0 ≤ p.start ∧ p.start ≤ 1000000) (hpn : (pieces vols).length ≤ 100000) (hfd : ∀ (i : Nat) (D : DiskM), disks[i]? = some D → findD disks D.name = some D) :
    Calls Try.prog 38 #[.agg #[.string name, .int .u64 id, .int .i64 seq, .int .i64 ext, .int .i64 nx, .slice tp tl tc, .slice dp disks.length dc, .slice vp vols.length vc, .slice hp hl hc]] w fun e w' => ∃ u f, e = .returned (.tuple #[.int .i64 u, .int .i64 f]) ∧ TotR disks vols disks.length u f ∧ Below w.heap.size w w' := by
  have hb1 := below_alloc w (.cells #[.string name, .int .u64 id, .int .i64 seq, .int .i64 ext, .int .i64 nx, .slice tp tl tc, .slice dp disks.length dc, .slice vp vols.length vc, .slice hp hl hc] 52)
  have hg1 := heap_alloc_new w (.cells #[.string name, .int .u64 id, .int .i64 seq, .int .i64 ext, .int .i64 nx, .slice tp tl tc, .slice dp disks.length dc, .slice vp vols.length vc, .slice hp hl hc] 52)
  have HR := Lib.hid hr; clear hr
  have HV := Lib.hid hv; clear hv
  have HT := Lib.hid ht; clear ht
  have HTG := Lib.hid htg; clear htg
  have HDE := Lib.hid hde; clear hde
  have HPS := Lib.hid hps; clear hps
  have HFD := Lib.hid hfd; clear hfd
  have HG1 := Lib.hid hg1; clear hg1
  have HB1 := Lib.hid hb1; clear hb1
  go_enter Try.func38, Try.ntmps38
  go_wp2
  go_loopw [2, 3, 17] (fun su sf i wr => ∃ (k : Nat) (u f : Int), k ≤ disks.length ∧ i = .int .i64 k ∧ su = .int .i64 u ∧ sf = .int .i64 f ∧ TotR disks vols k u f ∧ (0 ≤ u ∧ u ≤ 1000000 * k) ∧ (0 ≤ f ∧ f ≤ 1000000 * k) ∧ Below w.heap.size w wr ∧ wr.heap[w.heap.size]? = some (.cells #[.string name, .int .u64 id, .int .i64 seq, .int .i64 ext, .int .i64 nx, .slice tp tl tc, .slice dp disks.length dc, .slice vp vols.length vc, .slice hp hl hc] 52 (0, 0))) (fun _ _ i _ => disks.length - (intOf i).toNat)
  case atStart => exact ⟨0, 0, 0, Nat.zero_le _, rfl, rfl, rfl, .nil, by omega, by omega, HB1.out, HG1.out⟩
  case round =>
    obtain ⟨k, u, f, hk, rfl, rfl, rfl, hT, hu, hf, hB, hg⟩ := hrel
    have HTR := Lib.hid hT; clear hT
    by_cases hlt : k < disks.length
    · obtain ⟨D, hD⟩ := getSome disks k hlt
      obtain ⟨b, off, q, rfl, hob, hbw, hul, hvv, hcv⟩ := HR.out.elem hD
      obtain ⟨tv, rfl, htr⟩ := hvv
      obtain ⟨tp', tc', rfl, _, _⟩ := htr.cap
      have hbk : wr.heap[b]? = w.heap[b]? := hB.block b hbw
      have q0 := (World.cell?_of_block (w := w) (a := ⟨b, off + k * 7, none⟩) hbk).trans (hcv 0 _ rfl)
      have q1 := (World.cell?_of_block (w := w) (a := ⟨b, off + k * 7 + 1, none⟩) hbk).trans (hcv 1 _ rfl)
      have q2 := (World.cell?_of_block (w := w) (a := ⟨b, off + k * 7 + 2, none⟩) hbk).trans (hcv 2 _ rfl)
      have q3 := (World.cell?_of_block (w := w) (a := ⟨b, off + k * 7 + 3, none⟩) hbk).trans (hcv 3 _ rfl)
      have q4 := (World.cell?_of_block (w := w) (a := ⟨b, off + k * 7 + 4, none⟩) hbk).trans (hcv 4 _ rfl)
      have q5 := (World.cell?_of_block (w := w) (a := ⟨b, off + k * 7 + 5, none⟩) hbk).trans (hcv 5 _ rfl)
      have q6 := (World.cell?_of_block (w := w) (a := ⟨b, off + k * 7 + 6, none⟩) hbk).trans (hcv 6 _ rfl)
      have HD := Lib.hid hD; clear hD
      have hDE := HDE.out D (List.mem_of_getElem? HD.out)
      have hfd := HFD.out k D HD.out
      have HFF := Lib.hid hfd; clear hfd
      clear htr hcv hul hbk
      have hb2 := below_alloc wr (.cells #[.string D.name, .int .u64 D.id, .int .i64 D.first, .int .i64 D.extents, .bool D.closed, .bool D.missing, .slice tp' D.tags.length tc'] 59)
      have HX := Lib.hid (heap_alloc_new wr (.cells #[.string D.name, .int .u64 D.id, .int .i64 D.first, .int .i64 D.extents, .bool D.closed, .bool D.missing, .slice tp' D.tags.length tc'] 59))
      have hg2 := (hb2.block _ (lt_of_block hg)).trans hg
      have HB2 := Lib.hid (hB.trans (hb2.mono hB.size))
      have gL : ∀ (j : Nat) (z : Value), [.string name, .int .u64 id, .int .i64 seq, .int .i64 ext, .int .i64 nx, .slice tp tl tc, .slice (some ⟨b, off, none⟩) disks.length dc, .slice vp vols.length vc, .slice hp hl hc][j]? = some z → (wr.alloc (.cells #[.string D.name, .int .u64 D.id, .int .i64 D.first, .int .i64 D.extents, .bool D.closed, .bool D.missing, .slice tp' D.tags.length tc'] 59)).cell? ⟨w.heap.size, j, none⟩ = some z := fun j z hz => by
        simp only [World.cell?, hg2]
        simpa using hz
      have y0 := gL 0 _ rfl
      have y1 := gL 1 _ rfl
      have y2 := gL 2 _ rfl
      have y3 := gL 3 _ rfl
      have y4 := gL 4 _ rfl
      have y5 := gL 5 _ rfl
      have y6 := gL 6 _ rfl
      have y7 := gL 7 _ rfl
      have y8 := gL 8 _ rfl
      have HG2 := Lib.hid hg2; clear hg2
      clear gL hb2 hg hB
      go_wp2_with fail
      clear q0 q1 q2 q3 q4 q5 q6 y0 y1 y2 y3 y4 y5 y6 y7 y8
      generalize hW2 : World.alloc wr _ = W2 at *
      generalize hBx : wr.heap.size = Bx at *
      clear hW2 hBx
      refine (Used_any (ok := ok) name id seq ext nx tp _ vp hp tl tc dc vc hl hc disks vols D.name W2 ((RdS.moves vDisk.moves).mv ⟨HB2.out.size, fun b hb ho => ⟨ho, HB2.out.block b hb⟩⟩ HR.out) hd HTG.out HDE.out ((RdS.moves vVol.moves).mv ⟨HB2.out.size, fun b hb ho => ⟨ho, HB2.out.block b hb⟩⟩ HV.out) hvl HT.out HPS.out hpn).mono ?_
      rintro e w3 hu3
      unfold UsedP at hu3
      rw [HFF.out] at hu3
      obtain ⟨v3, x3, rfl, ho3, hnf3, hl3, hb3⟩ := hu3
      have hg3 := (hb3.block _ (lt_of_block HG2.out)).trans HG2.out
      have hx3 := (hb3.block _ (lt_of_block HX.out)).trans HX.out
      have HB3 := Lib.hid (HB2.out.trans (hb3.mono HB2.out.size))
      have HO3 := Lib.hid ho3; clear ho3
      have HN3 := Lib.hid hnf3; clear hnf3
      have n0 : w3.cell? ⟨Bx, 0, none⟩ = some (.string D.name) := by simp [World.cell?, hx3]
      have gL : ∀ (j : Nat) (z : Value), [.string name, .int .u64 id, .int .i64 seq, .int .i64 ext, .int .i64 nx, .slice tp tl tc, .slice (some ⟨b, off, none⟩) disks.length dc, .slice vp vols.length vc, .slice hp hl hc][j]? = some z → w3.cell? ⟨w.heap.size, j, none⟩ = some z := fun j z hz => by
        simp only [World.cell?, hg3]
        simpa using hz
      have y0 := gL 0 _ rfl
      have y1 := gL 1 _ rfl
      have y2 := gL 2 _ rfl
      have y3 := gL 3 _ rfl
      have y4 := gL 4 _ rfl
      have y5 := gL 5 _ rfl
      have y6 := gL 6 _ rfl
      have y7 := gL 7 _ rfl
      have y8 := gL 8 _ rfl
      have HG3 := Lib.hid hg3; clear hg3
      clear gL hx3 hb3
      go_wp2_with fail
      clear n0 y0 y1 y2 y3 y4 y5 y6 y7 y8
      refine (Free_any (ok := ok) name id seq ext nx tp _ vp hp tl tc dc vc hl hc disks vols D.name w3 ((RdS.moves vDisk.moves).mv ⟨HB3.out.size, fun b hb ho => ⟨ho, HB3.out.block b hb⟩⟩ HR.out) hd HTG.out HDE.out ((RdS.moves vVol.moves).mv ⟨HB3.out.size, fun b hb ho => ⟨ho, HB3.out.block b hb⟩⟩ HV.out) hvl HT.out HPS.out hpn).mono ?_
      rintro e w5 hf5
      unfold FreeP at hf5
      rw [HFF.out] at hf5
      obtain ⟨v5, x5, rfl, ho5, hnf5, hv5, hl5, hb5⟩ := hf5
      have HG5 := Lib.hid ((hb5.block _ (lt_of_block HG3.out)).trans HG3.out)
      have HB5 := Lib.hid (HB3.out.trans (hb5.mono HB3.out.size))
      have HO35 := Lib.hid (OwnR.below HO3.out hb5)
      have HO5 := Lib.hid ho5; clear ho5
      have HN5 := Lib.hid hnf5; clear hnf5
      have HV5 := Lib.hid hv5; clear hv5
      have hul3 := usedR_len D.name D.extents (pieces vols)
      clear hb5
      go_wp2_with fail
      refine (Count_ok x3 v3 w5 HO35.out.rd (NFof_valB HN3.out (usedR_val hDE.2)) (by omega)).mono ?_
      rintro e w6 ⟨x, hxn, rfl, hb6⟩
      have hxx := hxn.congr HN3.out.2
      have hxb := hxx.sum_bd hDE.1 (fun n q => mem_usedR q)
      have HXX := Lib.hid hxx; clear hxx hxn
      have HG6 := Lib.hid ((hb6.block _ (lt_of_block HG5.out)).trans HG5.out)
      have HB6 := Lib.hid (HB5.out.trans (hb6.mono HB5.out.size))
      have HO6 := Lib.hid (OwnR.below HO5.out hb6)
      clear hb6
      go_wp2_with fail
      refine (Count_ok x5 v5 w6 HO6.out.rd HV5.out (by omega)).mono ?_
      rintro e w7 ⟨y, hyn, rfl, hb7⟩
      have hyy := hyn.congr HN5.out.2
      have hyb := hyy.sum_bd hDE.1 (fun n q => q.1)
      have HYY := Lib.hid hyy; clear hyy hyn
      have HG7 := Lib.hid ((hb7.block _ (lt_of_block HG6.out)).trans HG6.out)
      have HB7 := Lib.hid (HB6.out.trans (hb7.mono HB6.out.size))
      clear hb7
      have hu1 := hu.1
      have hu2 := hu.2
      have hf1 := hf.1
      have hf2 := hf.2
      have hx1 := hxb.1
      have hx2 := hxb.2
      have hy1 := hyb.1
      have hy2 := hyb.2
      have hw1 : IntKind.i64.wrap (u + sumR x) = u + sumR x := IntWalk.i64_in _ (by omega)
      have hw2 : IntKind.i64.wrap (f + sumR y) = f + sumR y := IntWalk.i64_in _ (by omega)
      go_wp2
      go_roundw
      case rel => exact ⟨k + 1, u + sumR x, f + sumR y, by omega, by go_num, rfl, rfl, .snoc HTR.out HD.out HXX.out HYY.out, by omega, by omega, HB7.out, HG7.out⟩
      case measure => simp [intOf]; omega
    · obtain rfl : k = disks.length := by omega
      go_wp2
      refine bodyPost_ret (v := .tuple #[.int .i64 u, .int .i64 f]) (by simp [results, Try.results38, go_sem]) rfl ⟨u, f, rfl, HTR.out, hB⟩

end Go.Proofs.Yteengifhndmjeaa

namespace Go.Proofs.Yteengifhndmjeaa
open Go.RowKit

theorem mem_usedR_iff {nm : ByteArray} {ext : Int} {ps : List PieceM} {q : Int × Int} : q ∈ usedR nm ext ps ↔ ∃ x ∈ ps, (x.disk = nm ∧ 0 ≤ x.start ∧ x.start < ext ∧ 0 < x.len) ∧ q = (x.start, min x.len (ext - x.start)) := by
  unfold usedR
  rw [List.mem_filterMap]
  constructor
  · rintro ⟨x, hx, h⟩
    by_cases c : x.disk = nm ∧ 0 ≤ x.start ∧ x.start < ext ∧ 0 < x.len
    · rw [if_pos c] at h
      injection h with h
      exact ⟨x, hx, c, h.symm⟩
    · rw [if_neg c] at h
      cases h
  · rintro ⟨x, hx, c, rfl⟩
    exact ⟨x, hx, if_pos c⟩
theorem usedR_mem_congr {nm : ByteArray} {ext : Int} {ps qs : List PieceM} (h : ∀ x, x ∈ ps ↔ x ∈ qs) (n : Int) : Mem (usedR nm ext ps) n ↔ Mem (usedR nm ext qs) n := by
  have hh : ∀ q, q ∈ usedR nm ext ps ↔ q ∈ usedR nm ext qs := fun q => by
    rw [mem_usedR_iff, mem_usedR_iff]
    exact ⟨fun ⟨x, hx, r⟩ => ⟨x, (h x).1 hx, r⟩, fun ⟨x, hx, r⟩ => ⟨x, (h x).2 hx, r⟩⟩
  exact ⟨fun ⟨p, hp, r⟩ => ⟨p, (hh p).1 hp, r⟩, fun ⟨p, hp, r⟩ => ⟨p, (hh p).2 hp, r⟩⟩
theorem pieces_mem_congr {vs us : List VolM} (h : ∀ v, v ∈ vs ↔ v ∈ us) (x : PieceM) : x ∈ pieces vs ↔ x ∈ pieces us := by
  unfold pieces
  rw [List.mem_flatMap, List.mem_flatMap]
  exact ⟨fun ⟨v, hv, r⟩ => ⟨v, (h v).1 hv, r⟩, fun ⟨v, hv, r⟩ => ⟨v, (h v).2 hv, r⟩⟩
theorem usedR_mem_perm {nm : ByteArray} {ext : Int} {vs : List VolM} (n : Int) : Mem (usedR nm ext (pieces vs.reverse)) n ↔ Mem (usedR nm ext (pieces vs)) n :=
  usedR_mem_congr (pieces_mem_congr fun _v => List.mem_reverse) n

end Go.Proofs.Yteengifhndmjeaa

namespace Go.Proofs.Yteengifhndmjeaa
open Go.RowKit

def triple (p : PieceM) : ByteArray × Int × Int := (p.disk, p.start, p.len)
def triples (vs : List VolM) : List (ByteArray × Int × Int) := (pieces vs).map triple

theorem triples_append (a b : List VolM) : triples (a ++ b) = triples a ++ triples b := by simp [triples, pieces, List.flatMap_append]
theorem triples_one (v : VolM) : triples [v] = v.segs.flatMap fun s => (segPieces v.name s).map triple := by
  simp only [triples, pieces, List.flatMap_cons, List.flatMap_nil, List.append_nil, volPieces, List.map_flatMap]
theorem segTriples_off {name : ByteArray} {s : SegM} (h : ¬ onDisk s) : (segPieces name s).map triple = [] := by
  unfold segPieces
  rw [if_neg h]
  rfl
theorem segTriples_on {name : ByteArray} {s : SegM} (h : onDisk s) : (segPieces name s).map triple = s.areas.map fun a => (a.on, a.start, extN s.kind s.length s.areas.length) := by
  unfold segPieces
  rw [if_pos h, List.map_map]
  rfl
theorem segTriples_ps {name : ByteArray} {s : SegM} (h : s.kind ≠ 2) : (segPieces name s).map triple = segPs s := by
  unfold segPs
  by_cases c : s.kind = 1 ∨ s.kind = 8
  · rw [segTriples_on (c.elim (fun q => .inl q) fun q => .inr (.inr q)), if_pos c]
    have : extN s.kind s.length s.areas.length = s.length := by
      unfold extN
      rw [if_neg fun q => h q.1]
    rw [this]
  · rw [segTriples_off (fun q => q.elim (fun q => c (.inl q)) fun q => q.elim h fun q => c (.inr q)), if_neg c]
theorem triples_off {vs : List VolM} (h : ∀ v ∈ vs, ∀ s ∈ v.segs, ¬ onDisk s) : triples vs = [] := by
  refine List.eq_nil_iff_forall_not_mem.2 fun t ht => ?_
  obtain ⟨p, hp, rfl⟩ := List.mem_map.1 ht
  obtain ⟨v, hv, hp⟩ := List.mem_flatMap.1 hp
  obtain ⟨s, hs, hp⟩ := List.mem_flatMap.1 hp
  exact h v hv s hs (mem_segPieces hp).1
theorem HidV.triples {id c : Int} {ns : List ByteArray} {ls : List Int} {ps : List (ByteArray × Int × Int)} {vl : List VolM} (h : HidV id c ns ls ps vl) : triples vl = ps := by
  induction h with
  | nil => rfl
  | snoc h ih =>
    rw [triples_append, ih, triples_one]
    simp only [linVol, List.flatMap_cons, List.flatMap_nil, List.append_nil]
    rw [segTriples_ps (by simp [linSeg])]
    simp [segPs, linSeg]
theorem Thins.off {id : Int} {name : ByteArray} {k : Nat} {c : Int} {j : Nat} {tl : List VolM} (h : Thins id name k c j tl) : ∀ v ∈ tl, ∀ s ∈ v.segs, ¬ onDisk s := by
  induction h with
  | nil => intro v hv; cases hv
  | snoc h hl ih =>
    intro v hv s hs
    rcases List.mem_append.1 hv with q | q
    · exact ih v q s hs
    · obtain rfl := List.mem_singleton.1 q
      obtain rfl := List.mem_singleton.1 hs
      rintro (q | q | q) <;> simp at q
theorem CompR.off {e n : Int} {name : ByteArray} {kind : Int} {names : List ByteArray} {lengths : List Int} {x : SegM} (h : CompR e n name kind names lengths x) : ¬ onDisk x := by
  cases h <;> (rintro (q | q | q) <;> simp at q)

theorem StepG.took {name : ByteArray} {g g' : GroupM} {next next' : List Int} (h : StepG name g next g' next') : ∃ ps vl, Took g.disks next ps next' ∧ g'.vols = g.vols ++ vl ∧ (triples vl).Sublist ps := by
  cases h with
  | linF => exact ⟨[], [], .nil _, by simp, List.Sublist.refl _⟩
  | @lin n s on next1 next' segs ps hn h1 hm hl h2 hs =>
    refine ⟨_, _, h1.trans h2, rfl, ?_⟩
    obtain ⟨r, rfl, hr⟩ := hm.tail
    rw [triples_one]
    simp only [List.flatMap_append, List.flatMap_cons, List.flatMap_nil, List.append_nil]
    have e1 : (segPieces name (linSeg n on s)).map triple = [(on, s, n)] := by
      rw [segTriples_ps (by simp [linSeg])]
      simp [segPs, linSeg]
    rw [e1]
    refine List.Sublist.append (List.Sublist.refl _) (List.Sublist.trans ?_ hs)
    have e2 : ∀ l : List SegM, (∀ x ∈ l, x.kind ≠ 2) → l.flatMap (fun s => (segPieces name s).map triple) = l.flatMap segPs := by
      intro l hl
      induction l with
      | nil => rfl
      | cons x l ih => rw [List.flatMap_cons, List.flatMap_cons, segTriples_ps (hl x (List.mem_cons_self ..)), ih fun y hy => hl y (List.mem_cons_of_mem _ hy)]
    rw [e2 r fun x hx => (hr x hx).1]
    simp
  | strF h => exact ⟨_, [], h, by simp, by simp [triples, pieces]⟩
  | @str k n al next' hk hn hl ha h =>
    refine ⟨_, _, h, rfl, ?_⟩
    rw [triples_one]
    simp only [strVol, List.flatMap_cons, List.flatMap_nil, List.append_nil]
    rw [segTriples_on (.inr (.inl rfl))]
    have : extN (strSeg k n al).kind (strSeg k n al).length (strSeg k n al).areas.length = n := by
      show (if (2 : Int) = 2 ∧ 0 < al.length then k * n / (al.length : Int) else k * n) = n
      rw [if_pos ⟨rfl, by omega⟩, hl, Int.mul_ediv_cancel_left _ (by omega)]
    rw [this]
    exact List.Sublist.refl _
  | compF h => exact ⟨[], [], .nil _, by simp, List.Sublist.refl _⟩
  | @comp kind n names lengths x ps vl tl ro tags k j next' hkind hn hR hH hT ht hk hk5 hth =>
    refine ⟨ps, vl ++ [⟨name, idOf g.id (g.next + names.length + 1), false, ro, tags, [x]⟩] ++ tl, hT, by simp, ?_⟩
    rw [triples_append, triples_append, hH.triples, triples_off hth.off, triples_off (vs := [_]) (fun v hv s hs => by
      obtain rfl := List.mem_singleton.1 hv
      obtain rfl := List.mem_singleton.1 hs
      exact hR.off)]
    simp

theorem GSteps.took {c : Nat} {g0 : GroupM} {n0 : List Int} (h0 : g0.vols = []) {i : Nat} {g : GroupM} {next : List Int} (h : GSteps c g0 n0 i g next) : g.disks = g0.disks ∧ ∃ ps, Took g0.disks n0 ps next ∧ (triples g.vols).Sublist ps := by
  induction h with
  | nil => exact ⟨rfl, [], .nil _, by rw [h0]; exact List.Sublist.refl _⟩
  | @step i g g' next next' h hs ih =>
    obtain ⟨e, ps, h1, h2⟩ := ih
    obtain ⟨qs, vl, h3, h4, h5⟩ := hs.took
    refine ⟨?_, ps ++ qs, h1.trans (e ▸ h3), ?_⟩
    · rw [← e]
      cases hs <;> rfl
    · rw [h4, triples_append]
      exact h2.append h5

structure Apart (disks : List DiskM) (ps : List (ByteArray × Int × Int)) : Prop where
  on : ∀ q ∈ ps, ∃ D ∈ disks, D.name = q.1 ∧ 0 ≤ q.2.1 ∧ 1 ≤ q.2.2 ∧ q.2.1 + q.2.2 ≤ D.extents
  row : ps.Pairwise fun p q => p.1 = q.1 → p.2.1 + p.2.2 ≤ q.2.1
theorem Apart.sub {disks : List DiskM} {ps qs : List (ByteArray × Int × Int)} (h : Apart disks ps) (hs : qs.Sublist ps) : Apart disks qs := ⟨fun q hq => h.on q (hs.subset hq), h.row.sublist hs⟩

theorem Took.apart {disks : List DiskM} {a b : List Int} {ps : List (ByteArray × Int × Int)} (h : Took disks a ps b) (hn : ∀ (i j : Nat) (D E : DiskM), disks[i]? = some D → disks[j]? = some E → D.name = E.name → i = j) (ha : ∀ m ∈ a, 0 ≤ m) :
    Apart disks ps ∧ (∀ m ∈ b, 0 ≤ m) ∧ ∀ q ∈ ps, ∀ (d : Nat) (D : DiskM) (m : Int), disks[d]? = some D → D.name = q.1 → b[d]? = some m → q.2.1 + q.2.2 ≤ m := by
  induction h with
  | nil => exact ⟨⟨fun q hq => by (cases hq), List.Pairwise.nil⟩, ha, fun q hq => by (cases hq)⟩
  | @snoc next1 ps d D m s n h hd hm h1 h2 h3 ih =>
    obtain ⟨i1, i2, i3⟩ := ih
    have hm0 := i2 m (List.mem_of_getElem? hm)
    refine ⟨⟨fun q hq => ?_, ?_⟩, fun x hx => ?_, fun q hq d' D' m' hd' e' hm' => ?_⟩
    · rcases List.mem_append.1 hq with q1 | q1
      · exact i1.on q q1
      · obtain rfl := List.mem_singleton.1 q1
        exact ⟨D, List.mem_of_getElem? hd, rfl, by dsimp only; omega, h3, h2⟩
    · rw [List.pairwise_append]
      refine ⟨i1.row, List.pairwise_singleton .., fun p hp q hq e => ?_⟩
      obtain rfl := List.mem_singleton.1 hq
      have := i3 p hp d D m hd e.symm hm
      dsimp only
      omega
    · rcases List.mem_or_eq_of_mem_set hx with q | rfl
      · exact i2 x q
      · omega
    · by_cases c : d = d'
      · subst c
        rw [hd] at hd'
        injection hd' with hd'
        subst hd'
        rw [List.getElem?_set_self (List.getElem?_eq_some_iff.1 hm).1] at hm'
        injection hm' with hm'
        rcases List.mem_append.1 hq with q1 | q1
        · have := i3 q q1 d D m hd e' hm
          omega
        · obtain rfl := List.mem_singleton.1 q1
          dsimp only
          omega
      · rw [List.getElem?_set_ne c] at hm'
        rcases List.mem_append.1 hq with q1 | q1
        · exact i3 q q1 d' D' m' hd' e' hm'
        · obtain rfl := List.mem_singleton.1 q1
          exact absurd (hn d d' D D' hd hd' e'.symm) c

theorem Built.apart {g : GroupM} (h : Built g) : Apart g.disks (triples g.vols) ∧ ∀ (i j : Nat) (D E : DiskM), g.disks[i]? = some D → g.disks[j]? = some E → D.name = E.name → i = j := by
  obtain ⟨c, g0, g1, next, hc, _, _, _, hext, hn0, _, hv0, _, hdl, hdk, hgs, hg, _, _⟩ := h.ex
  have hnm : ∀ (i j : Nat) (D E : DiskM), g0.disks[i]? = some D → g0.disks[j]? = some E → D.name = E.name → i = j := fun i j D E hi hj e => by
    have h1 := (List.getElem?_eq_some_iff.1 hi).1
    have h2 := (List.getElem?_eq_some_iff.1 hj).1
    rw [(hdk i D hi).name, (hdk j E hj).name] at e
    exact pv_inj (by omega) (by omega) e
  obtain ⟨ed, ps, h1, h2⟩ := hgs.took hv0
  have ha := (h1.apart hnm (fun m hm => by rw [List.mem_replicate] at hm; omega)).1
  have ed' : g.disks = g0.disks := by rw [hg]; exact ed
  have ev : g.vols = g1.vols := by rw [hg]
  rw [ed', ev]
  exact ⟨ha.sub h2, hnm⟩

/-- Ranges one behind the other: their sum is the number of elements. -/
theorem cnt_row (M : Nat) : ∀ l : List (Int × Int), (∀ p ∈ l, 0 ≤ p.1 ∧ 1 ≤ p.2 ∧ p.1 + p.2 ≤ M) → l.Pairwise (fun p q => p.1 + p.2 ≤ q.1) → cnt M (inB l) = sumR l
  | [], _, _ => by
    rw [cnt_none M _ fun n => by simp [inB]]
    rfl
  | p :: l, h, hp => by
    rw [List.pairwise_cons] at hp
    have hb := h p (List.mem_cons_self ..)
    have ih := cnt_row M l (fun q hq => h q (List.mem_cons_of_mem _ hq)) hp.2
    have h1 := cnt_or_and M (fun n => decide (p.1 ≤ n) && decide (n < p.1 + p.2)) (inB l)
    have h2 : cnt M (inB (p :: l)) = cnt M (fun n => (decide (p.1 ≤ n) && decide (n < p.1 + p.2)) || inB l n) := cnt_congr M _ _ fun n => by simp [inB]
    have h3 : cnt M (fun n => (decide (p.1 ≤ n) && decide (n < p.1 + p.2)) && inB l n) = 0 := cnt_none M _ fun n => by
      by_cases c : p.1 ≤ n ∧ n < p.1 + p.2
      · have : inB l n = false := by
          rw [← Bool.not_eq_true, inB_iff]
          rintro ⟨q, hq, q1, q2⟩
          have := hp.1 q hq
          omega
        simp [this]
      · have : (decide (p.1 ≤ n) && decide (n < p.1 + p.2)) = false := by simpa using c
        simp only [this, Bool.false_and]
    have h4 := cnt_run M p.1 (p.1 + p.2) hb.1 (by omega)
    simp only [sumR, List.map_cons, List.sum_cons] at ih ⊢
    omega

theorem usedR_cons {nm : ByteArray} {ext : Int} (x : PieceM) (ps : List PieceM) (h1 : 0 ≤ x.start) (h2 : 1 ≤ x.len) (h3 : x.disk = nm → x.start + x.len ≤ ext) : usedR nm ext (x :: ps) = if x.disk = nm then (x.start, x.len) :: usedR nm ext ps else usedR nm ext ps := by
  unfold usedR
  rw [List.filterMap_cons]
  by_cases c : x.disk = nm
  · have := h3 c
    rw [if_pos ⟨c, h1, by omega, by omega⟩, if_pos c, Int.min_eq_left (by omega)]
  · rw [if_neg fun q => c q.1, if_neg c]

theorem usedR_row {disks : List DiskM} {D : DiskM} {ps : List PieceM} (hn : ∀ E ∈ disks, E.name = D.name → E = D) (h : Apart disks (ps.map triple)) :
    (∀ p ∈ usedR D.name D.extents ps, 0 ≤ p.1 ∧ 1 ≤ p.2 ∧ p.1 + p.2 ≤ D.extents) ∧ (usedR D.name D.extents ps).Pairwise fun p q => p.1 + p.2 ≤ q.1 := by
  refine ⟨fun p hp => by have := usedR_bd p hp; omega, ?_⟩
  induction ps with
  | nil => exact List.Pairwise.nil
  | cons x ps ih =>
    rw [List.map_cons] at h
    obtain ⟨E, hE, e1, e2, e3, e4⟩ := h.on (triple x) (List.mem_cons_self ..)
    have hr := List.pairwise_cons.1 h.row
    rw [usedR_cons x ps e2 e3 fun c => by rw [hn E hE (e1.trans c)] at e4; exact e4]
    have hi := ih (h.sub (List.sublist_cons_self ..))
    split
    · rename_i c
      refine List.pairwise_cons.2 ⟨fun q hq => ?_, hi⟩
      rw [mem_usedR_iff] at hq
      obtain ⟨y, hy, c', rfl⟩ := hq
      have := hr.1 (triple y) (List.mem_map.2 ⟨y, hy, rfl⟩) (c.trans c'.1.symm)
      exact this
    · exact hi

def sumLens (ps : List PieceM) : Int := (ps.map (·.len)).sum
theorem sum_disks {disks : List DiskM} {ps : List PieceM} (hn : ∀ (i j : Nat) (D E : DiskM), disks[i]? = some D → disks[j]? = some E → D.name = E.name → i = j) (h : Apart disks (ps.map triple)) :
    (disks.map fun D => sumR (usedR D.name D.extents ps)).sum = sumLens ps := by
  have hu : ∀ D ∈ disks, ∀ E ∈ disks, E.name = D.name → E = D := fun D hD E hE e => by
    obtain ⟨i, hi⟩ := List.getElem?_of_mem hD
    obtain ⟨j, hj⟩ := List.getElem?_of_mem hE
    obtain rfl := hn j i E D hj hi e
    rw [hi] at hj
    injection hj with hj
    exact hj.symm
  induction ps with
  | nil =>
    have : ∀ l : List DiskM, (l.map fun D => sumR (usedR D.name D.extents [])).sum = 0 := by
      intro l
      induction l with
      | nil => rfl
      | cons D l ih => simp only [List.map_cons, List.sum_cons, ih]; rfl
    rw [this]
    rfl
  | cons x ps ih =>
    rw [List.map_cons] at h
    obtain ⟨E, hE, e1, e2, e3, e4⟩ := h.on (triple x) (List.mem_cons_self ..)
    have hx : ∀ D ∈ disks, sumR (usedR D.name D.extents (x :: ps)) = sumR (usedR D.name D.extents ps) + if x.disk = D.name then x.len else 0 := fun D hD => by
      rw [usedR_cons x ps e2 e3 fun c => by rw [hu D hD E hE (e1.trans c)] at e4; exact e4]
      split
      · simp only [sumR, List.map_cons, List.sum_cons]
        omega
      · omega
    have hs : ∀ l : List DiskM, (∀ D ∈ l, D ∈ disks) → (l.map fun D => sumR (usedR D.name D.extents (x :: ps))).sum = (l.map fun D => sumR (usedR D.name D.extents ps)).sum + (l.map fun D => if x.disk = D.name then x.len else 0).sum := by
      intro l hl
      induction l with
      | nil => rfl
      | cons D l ih =>
        have h1 := hx D (hl D (List.mem_cons_self ..))
        have h2 := ih fun D hD => hl D (List.mem_cons_of_mem _ hD)
        simp only [List.map_cons, List.sum_cons] at h2 ⊢
        omega
    have h1 : ∀ l : List DiskM, (∀ D ∈ l, ¬ x.disk = D.name) → (l.map fun D => if x.disk = D.name then x.len else 0).sum = 0 := by
      intro l hl
      induction l with
      | nil => rfl
      | cons D l ih =>
        have h2 := ih fun D hD => hl D (List.mem_cons_of_mem _ hD)
        simp only [List.map_cons, List.sum_cons, h2, if_neg (hl D (List.mem_cons_self ..))]
        rfl
    have hone : (disks.map fun D => if x.disk = D.name then x.len else 0).sum = x.len := by
      obtain ⟨k, hk⟩ := List.getElem?_of_mem hE
      have hkl := (List.getElem?_eq_some_iff.1 hk).1
      have hsp : disks = disks.take k ++ E :: disks.drop (k + 1) := by
        have : disks.drop k = E :: disks.drop (k + 1) := by
          rw [List.drop_eq_getElem_cons hkl]
          rw [List.getElem?_eq_getElem hkl] at hk
          injection hk with hk
          rw [hk]
        rw [← this, List.take_append_drop]
      rw [hsp, List.map_append, List.sum_append, List.map_cons, List.sum_cons, if_pos (show x.disk = E.name from e1.symm)]
      rw [h1 _ fun D hD c => ?_, h1 _ fun D hD c => ?_]
      · omega
      · obtain ⟨j, hj⟩ := List.getElem?_of_mem hD
        rw [List.getElem?_drop] at hj
        have := hn (k + 1 + j) k D E hj hk (c.symm.trans e1.symm)
        omega
      · obtain ⟨j, hj⟩ := List.getElem?_of_mem hD
        have hjl := (List.getElem?_eq_some_iff.1 hj).1
        rw [List.length_take] at hjl
        rw [List.getElem?_take_of_lt (by omega)] at hj
        have := hn j k D E hj hk (c.symm.trans e1.symm)
        omega
    have h2 := ih (h.sub (List.sublist_cons_self ..))
    have h3 := hs disks fun D hD => hD
    simp only [sumLens, List.map_cons, List.sum_cons] at h2 ⊢
    omega

/-- The sums that Total returns. -/
theorem TotR.sums {disks : List DiskM} {vols : List VolM} (hn : ∀ (i j : Nat) (D E : DiskM), disks[i]? = some D → disks[j]? = some E → D.name = E.name → i = j) (h : Apart disks (triples vols)) (hde : ∀ D ∈ disks, 0 ≤ D.extents) {u f : Int} (ht : TotR disks vols disks.length u f) : u = sumLens (pieces vols) := by
  have hu : ∀ D ∈ disks, ∀ E ∈ disks, E.name = D.name → E = D := fun D hD E hE e => by
    obtain ⟨i, hi⟩ := List.getElem?_of_mem hD
    obtain ⟨j, hj⟩ := List.getElem?_of_mem hE
    obtain rfl := hn j i E D hj hi e
    rw [hi] at hj
    injection hj with hj
    exact hj.symm
  rw [← sum_disks hn h]
  have key : ∀ {k : Nat} {u f : Int}, TotR disks vols k u f → u = ((disks.take k).map fun D => sumR (usedR D.name D.extents (pieces vols))).sum := by
    intro k u f ht
    induction ht with
    | nil => simp
    | @snoc k u f D x y h' hD hx hy ih =>
      have hDm := List.mem_of_getElem? hD
      have hxs : sumR x = sumR (usedR D.name D.extents (pieces vols)) := by
        obtain ⟨M, hM⟩ := Int.eq_ofNat_of_zero_le (hde D hDm)
        have hr := usedR_row (D := D) (ps := pieces vols) (hu D hDm) h
        have c1 := cnt_row M (usedR D.name D.extents (pieces vols)) (fun p hp => by have := hr.1 p hp; omega) hr.2
        have c2 := sumR_cnt M x hx.1 fun p hp => by
          have c := hx.1.1 p hp
          have h1 := mem_usedR ((hx.2 p.1).1 ⟨p, hp, by omega, by omega⟩)
          have h2 := mem_usedR ((hx.2 (p.1 + p.2 - 1)).1 ⟨p, hp, by omega, by omega⟩)
          omega
        rw [c2, ← c1]
        exact cnt_congr M _ _ fun n => inB_eq (hx.2 n)
      rw [take_snoc' disks k D hD, List.map_append, List.sum_append, ← ih, hxs]
      simp
  have := key ht
  rwa [List.take_length] at this

/-- The sums over used and free extents. -/
theorem used_free {D : DiskM} {S : Int → Prop} {x y : List (Int × Int)} (hde : 0 ≤ D.extents) (hS : ∀ n, S n → 0 ≤ n ∧ n < D.extents) (hx : NFof x S) (hy : NFof y (fun n => (0 ≤ n ∧ n < D.extents) ∧ ¬ S n)) : sumR x + sumR y = D.extents := by
  obtain ⟨M, hM⟩ := Int.eq_ofNat_of_zero_le hde
  have bx : ∀ p ∈ x, 0 ≤ p.1 ∧ p.1 + p.2 ≤ M := fun p hp => by
    have c := hx.1.1 p hp
    have h1 := hS _ ((hx.2 p.1).1 ⟨p, hp, by omega, by omega⟩)
    have h2 := hS _ ((hx.2 (p.1 + p.2 - 1)).1 ⟨p, hp, by omega, by omega⟩)
    omega
  have by' : ∀ p ∈ y, 0 ≤ p.1 ∧ p.1 + p.2 ≤ M := fun p hp => by
    have c := hy.1.1 p hp
    have h1 := ((hy.2 p.1).1 ⟨p, hp, by omega, by omega⟩).1
    have h2 := ((hy.2 (p.1 + p.2 - 1)).1 ⟨p, hp, by omega, by omega⟩).1
    omega
  have c1 := sumR_cnt M x hx.1 bx
  have c2 := sumR_cnt M y hy.1 by'
  have c3 := cnt_or_and M (inB x) (inB y)
  have c4 : cnt M (fun n => inB x n && inB y n) = 0 := cnt_none M _ fun n => by
    by_cases c : inB x n = true
    · have : inB y n = false := by
        rw [← Bool.not_eq_true, inB_iff, hy.2 n]
        exact fun q => q.2 ((hx.2 n).1 ((inB_iff x n).1 c))
      simp [this]
    · simp [Bool.not_eq_true _ ▸ c]
  have c5 : cnt M (fun n => inB x n || inB y n) = cnt M (fun n => decide (0 ≤ n) && decide (n < D.extents)) := cnt_congr M _ _ fun n => by
    rw [Bool.eq_iff_iff]
    simp only [Bool.or_eq_true, Bool.and_eq_true, decide_eq_true_eq, inB_iff, hx.2 n, hy.2 n]
    constructor
    · rintro (q | q)
      · exact hS n q
      · exact q.1
    · intro q
      by_cases c : S n
      · exact .inl c
      · exact .inr ⟨q, c⟩
  have c6 := cnt_run M 0 D.extents (by omega) hde
  omega

end Go.Proofs.Yteengifhndmjeaa
