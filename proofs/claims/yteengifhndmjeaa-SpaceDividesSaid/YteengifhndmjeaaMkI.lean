/- builder.linear. -/
import Derived.Test.YteengifhndmjeaaMkD
import Derived.Test.YteengifhndmjeaaFlo
namespace Go.Proofs.Yteengifhndmjeaa
open Go.RowKit

def es : ByteArray := ⟨#[]⟩
/-- A segment on one disk. -/
def linSeg (n : Int) (on : ByteArray) (s : Int) : SegM := ⟨0, n, 1, [⟨false, on, s⟩], 0, [], es, es, 0, 0, 0⟩
def linVol (name : ByteArray) (id : Int) (hidden : Bool) (n : Int) (on : ByteArray) (s : Int) : VolM := ⟨name, id, hidden, false, [], [linSeg n on s]⟩

/-- Areas taken of disks, one behind the other: name, start, length. -/
inductive Took (disks : List DiskM) : List Int → List (ByteArray × Int × Int) → List Int → Prop
  | nil (next : List Int) : Took disks next [] next
  | snoc {next next1 : List Int} {ps : List (ByteArray × Int × Int)} {d : Nat} {D : DiskM} {m s n : Int} (h : Took disks next ps next1) (hd : disks[d]? = some D) (hm : next1[d]? = some m) (h1 : m ≤ s) (h2 : s + n ≤ D.extents) (h3 : 1 ≤ n) : Took disks next (ps ++ [(D.name, s, n)]) (next1.set d (s + n))

theorem Took.trans {disks : List DiskM} {a b c : List Int} {p q : List (ByteArray × Int × Int)} (h : Took disks a p b) (k : Took disks b q c) : Took disks a (p ++ q) c := by
  induction k with
  | nil => simpa using h
  | snoc k hd hm h1 h2 h3 ih =>
    rw [← List.append_assoc]
    exact .snoc ih hd hm h1 h2 h3

/-- What disks hold, and what is taken of them. -/
structure DOk (disks : List DiskM) (next : List Int) : Prop where
  len : next.length = disks.length
  pos : 0 < disks.length
  le : disks.length ≤ 8
  ext : ∀ D ∈ disks, 0 ≤ D.extents ∧ D.extents ≤ 1000
  nx : ∀ (d : Nat) (m : Int), next[d]? = some m → 0 ≤ m ∧ m ≤ 1000
theorem Took.ok {disks : List DiskM} {a b : List Int} {p : List (ByteArray × Int × Int)} (h : Took disks a p b) (k : DOk disks a) : DOk disks b := by
  induction h with
  | nil => exact k
  | @snoc next1 ps d D m s n h hd hm h1 h2 h3 ih =>
    refine ⟨by simp [ih.len], ih.pos, ih.le, ih.ext, fun e x hx => ?_⟩
    rw [List.getElem?_set] at hx
    split at hx
    · split at hx
      · injection hx with hx
        have := ih.nx d m hm
        have := ih.ext D (List.mem_of_getElem? hd)
        omega
      · cases hx
    · exact ih.nx e x hx

/-- What a builder must hold for its functions to run. -/
structure BOk (g : GroupM) (next : List Int) : Prop where
  dk : DOk g.disks next
  n0 : 0 ≤ g.next
  n1 : g.next ≤ 100000
  vl : g.vols.length ≤ 100

/-- The last of some volumes lies so that its segments have no room. -/
def Tight (w : World) (vv : Value) (n : Nat) : Prop := ∃ vb vc sb, vv = .slice (some ⟨vb, 0, none⟩) (n + 1) vc ∧ w.cell? ⟨vb, n * 6 + 5, none⟩ = some (.slice (some ⟨sb, 0, none⟩) 1 1)

def LinP (X : Nat → Prop) (bs bb : Nat) (nv vv : Value) (g : GroupM) (next : List Int) (name : ByteArray) (hidden : Bool) (n : Int) (w : World) (e : Ending) (w' : World) : Prop :=
  (e = .returned (.bool false) ∧ BPost X bs bb nv vv w w' nv vv { g with next := g.next + 1 } next) ∨
  ∃ (on : ByteArray) (s : Int) (next' : List Int) (vv' : Value), Took g.disks next [(on, s, n)] next' ∧ e = .returned (.bool true) ∧
    BPost X bs bb nv vv w w' nv vv' { g with next := g.next + 1, vols := g.vols ++ [linVol name (idOf g.id (g.next + 1)) hidden n on s] } next' ∧ Tight w' vv' g.vols.length

def addX (X : Nat → Prop) (L : Nat) : Nat → Prop := fun k => X k ∨ k = L
theorem addX_new {X : Nat → Prop} {w : World} {o : Obj} {L : Nat} (hL : L = w.heap.size) : ∀ k, addX X L k → X k ∨ (w.heap.size ≤ k ∧ k < (w.alloc o).heap.size) := by
  rintro k (h | rfl)
  · exact .inl h
  · exact .inr ⟨by omega, by simp; omega⟩
theorem below_alloc (w : World) (o : Obj) : Below w.heap.size w (w.alloc o) := (Below.refl _ _).alloc (Nat.le_refl _) _

theorem heap_al3 {w : World} {b : Nat} (hb : b < w.heap.size) (o p q : Obj) : (((w.alloc o).alloc p).alloc q).heap[b]? = w.heap[b]? := by
  rw [Below.heap_alloc _ _ _ (by simp; omega), Below.heap_alloc _ _ _ (by simp; omega), Below.heap_alloc _ _ _ hb]

theorem Bld.c7 {X : Nat → Prop} {w : World} {bs bb : Nat} {nv vv : Value} {g : GroupM} {next : List Int} (h : Bld X w bs bb nv vv g next) : ∃ p dcap, w.cell? ⟨bb, 7, none⟩ = some (.slice p g.disks.length dcap) ∧ g.disks.length ≤ dcap ∧ dcap ≤ 9223372036854775807 := by
  obtain ⟨tv, dv, hv, e, _, h2, _⟩ := h.blk
  obtain ⟨p, dcap, ed, k1, k2, k3⟩ := h2
  simp only [List.cons.injEq, and_true] at ed
  subst ed
  exact ⟨p, dcap, by simp [World.cell?, e], k1, k2⟩
theorem Bld.c8 {X : Nat → Prop} {w : World} {bs bb : Nat} {nv vv : Value} {g : GroupM} {next : List Int} (h : Bld X w bs bb nv vv g next) : w.cell? ⟨bb, 8, none⟩ = some vv := by
  obtain ⟨tv, dv, hv, e, _, h2, _⟩ := h.blk
  simp [World.cell?, e]
theorem Bld.bfr {X : Nat → Prop} {w : World} {bs bb : Nat} {nv vv : Value} {g : GroupM} {next : List Int} (h : Bld X w bs bb nv vv g next) (i : Nat) : w.frozen? ⟨bb, i, none⟩ = false := by
  obtain ⟨tv, dv, hv, e, _, h2, _⟩ := h.blk
  simp [World.frozen?, e]

set_option maxRecDepth 100000 in
set_option maxHeartbeats 2000000 in
theorem linear_any (X : Nat → Prop) (bs bb : Nat) (nv vv : Value) (g : GroupM) (next : List Int) (w : World) (h : Bld X w bs bb nv vv g next) (hk : BOk g next) (name : ByteArray) (hidden : Bool) (d0 : Nat) (n : Int) (hd0 : d0 ≤ 100) (hn0 : 1 ≤ n) (hn1 : n ≤ 1000000) :
    Calls Try.prog 56 #[.pointer (some ⟨bb, 0, none⟩), .string name, .bool hidden, .int .i64 d0, .int .i64 n] w (LinP X bs bb nv vv g next name hidden n w) := by
  have k0 := hk.n0
  have k1 := hk.n1
  have k2 := hk.dk.pos
  have k3 := hk.dk.le
  have k4 := hk.vl
  go_enter Try.func56, Try.ntmps56
  go_wp2_with fail
  refine (id_any X bs bb nv vv g next _ h (by omega) (by omega)).mono ?_
  rintro e w1 ⟨rfl, P1⟩
  generalize hid : idOf g.id (g.next + 1) = vid
  have HID := Lib.hid hid; clear hid
  go_wp2
  have P2 := P1.fresh (Y := addX X w1.heap.size) (below_alloc w1 (.cells #[.string name, .int .u64 vid, .bool hidden, .bool false, .slice none 0 0, .slice none 0 0] 56)) (addX_new rfl)
  have HL := Lib.hid (heap_alloc_new w1 (.cells #[.string name, .int .u64 vid, .bool hidden, .bool false, .slice none 0 0, .slice none 0 0] 56))
  have hLw := P1.mod.size
  generalize hL : w1.heap.size = L at *
  have HLe := Lib.hid hL; clear hL
  go_loopw [12] (fun i wr => ∃ k : Nat, k ≤ g.disks.length ∧ i = .int .i64 k ∧ BPost (addX X L) bs bb nv vv w wr nv vv { g with next := g.next + 1 } next ∧ wr.heap[L]? = some (.cells #[.string name, .int .u64 vid, .bool hidden, .bool false, .slice none 0 0, .slice none 0 0] 56 (0, 0))) (fun i _ => g.disks.length - (intOf i).toNat)
  case atStart => exact ⟨0, by omega, rfl, P2, HL.out⟩
  case round =>
    obtain ⟨k, hkl, rfl, P, hLb⟩ := hrel
    have HLb := Lib.hid hLb; clear hLb
    obtain ⟨dp, dcap, c7, l1, l2⟩ := P.bld.c7
    simp only at c7 l1
    by_cases hlt : k < g.disks.length
    · have hmod : ((d0 : Int) + (k : Int)) % (g.disks.length : Int) = (((d0 + k) % g.disks.length : Nat) : Int) := by simp
      have hdl : (d0 + k) % g.disks.length < g.disks.length := Nat.mod_lt _ k2
      generalize hd : (d0 + k) % g.disks.length = d at *
      have HDe := Lib.hid hd; clear hd
      obtain ⟨D, hD⟩ := getSome g.disks d hdl
      obtain ⟨m, hm⟩ := getSome next d (by rw [hk.dk.len]; exact hdl)
      have hmb := hk.dk.nx d m hm
      have HD := Lib.hid hD; clear hD
      have HM := Lib.hid hm; clear hm
      go_wp2_with fail
      refine (area_any (addX X L) bs bb nv vv _ next _ P.bld d D m n HD.out HM.out hmb.1 (by omega) (by omega) hn1).mono ?_
      rintro e w2 (⟨rfl, Q, _⟩ | ⟨s, hs1, hs2, rfl, Q, _⟩)
      · go_wp2
        go_roundw
        case rel => exact ⟨k + 1, by omega, by go_num, (P.trans Q).after (below_alloc _ _), (Below.heap_alloc _ _ _ (by have := Q.mod.size; have := lt_of_block HLb.out; omega)).trans ((Q.loc P.bld (.inr rfl)).trans HLb.out)⟩
        case measure => simp [intOf]; omega
      · have R2 := P.trans Q
        have HL2 := Lib.hid ((Q.loc P.bld (.inr rfl)).trans HLb.out)
        have hLs : L < w2.heap.size := lt_of_block HL2.out
        have cL5 : ∀ o p q, (((w2.alloc o).alloc p).alloc q).cell? ⟨L, 5, none⟩ = some (.slice none 0 0) := fun o p q => by simp [World.cell?, heap_al3 hLs, HL2.out]
        have fL5 : ∀ o p q, (((w2.alloc o).alloc p).alloc q).frozen? ⟨L, 5, none⟩ = false := fun o p q => by simp [World.frozen?, heap_al3 hLs, HL2.out]
        go_wp2
        clear cL5 fL5
        generalize hW : World.setCell (World.alloc (World.alloc (World.alloc w2 _) _) _) _ _ = W
        have R4 : BPost (addX X L) bs bb nv vv w W nv vv { g with next := g.next + 1 } (next.set d (s + n)) := by
          rw [← hW]
          exact (((R2.after (below_alloc _ _)).after (below_alloc _ _)).after (below_alloc _ _)).put L 5 _ (.inr rfl) hLw
        have hWL : W.heap[L]? = some (.cells #[.string name, .int .u64 vid, .bool hidden, .bool false, .slice none 0 0, .slice (some ⟨w2.heap.size + 1 + 1, 0, none⟩) 1 1] 56 (0, 0)) := by
          rw [← hW]
          exact block_setCell (cs := #[_, _, _, _, _, _]) (i := 5) _ ((heap_al3 hLs _ _ _).trans HL2.out)
        have hWA : W.heap[w2.heap.size + 1]? = some (.cells [.bool false, .string D.name, .int .i64 s].toArray 98 (0, 0)) := by
          rw [← hW, Below.heap_setCell _ _ _ _ (by simp; omega), Below.heap_alloc _ _ _ (by simp)]
          have := heap_alloc_new (w2.alloc (.cells #[.bool false, .string D.name, .int .i64 s] 98)) (.cells #[.bool false, .string D.name, .int .i64 s] 98)
          rw [World.size_alloc] at this
          exact this
        have hWS : W.heap[w2.heap.size + 1 + 1]? = some (.cells [.int .i64 0, .int .i64 n, .int .i64 1, .slice (some ⟨w2.heap.size + 1, 0, none⟩) 1 1, .int .i64 0, .slice none 0 0, .string es, .string es, .int .i64 0, .int .i64 0, .int .i64 0].toArray 101 (0, 0)) := by
          rw [← hW, Below.heap_setCell _ _ _ _ (by simp; omega)]
          have := heap_alloc_new ((w2.alloc (.cells #[.bool false, .string D.name, .int .i64 s] 98)).alloc (.cells #[.bool false, .string D.name, .int .i64 s] 98)) (.cells #[.int .i64 0, .int .i64 n, .int .i64 1, .slice (some ⟨w2.heap.size + 1, 0, none⟩) 1 1, .int .i64 0, .slice none 0 0, .string es, .string es, .int .i64 0, .int .i64 0, .int .i64 0] 101)
          rw [World.size_alloc, World.size_alloc] at this
          exact this
        have RV : vVol (okB (addX X L) bb nv vv) W [.string name, .int .u64 vid, .bool hidden, .bool false, .slice none 0 0, .slice (some ⟨w2.heap.size + 1 + 1, 0, none⟩) 1 1] (linVol name vid hidden n D.name s) :=
          ⟨_, _, rfl, RdS.nil, RdS.one hWS (R2.bld.okNew (by omega)) rfl ⟨_, _, rfl, RdS.one hWA (R2.bld.okNew (by omega)) rfl rfl, RdS.nil⟩⟩
        clear hW hWA hWS
        obtain ⟨i0, hi, hz0, hz1, hz2⟩ := info_parts infoV
        have HI := Lib.hid hi; clear hi
        have H0 := Lib.hid hz0; clear hz0
        have H1 := Lib.hid hz1; clear hz1
        have H2 := Lib.hid hz2; clear hz2
        have hbw := R4.bld.bbLt
        have hbL : bb < L := by have := h.bbLt; omega
        have q8 : W.cell? ⟨bb, 8, none⟩ = some vv := R4.bld.c8
        have qL : ∀ (j : Nat) (z : Value), [Value.string name, .int .u64 vid, .bool hidden, .bool false, .slice none 0 0, .slice (some ⟨w2.heap.size + 1 + 1, 0, none⟩) 1 1][j]? = some z → W.cell? ⟨L, j, none⟩ = some z := fun j z hz => by
          simp only [World.cell?, hWL]
          simpa using hz
        have hne1 : bb ≠ L := by omega
        have hne2 : L ≠ bb := by omega
        have qf : W.frozen? ⟨bb, 8, none⟩ = false := R4.bld.bfr 8
        have q0 := qL 0 _ rfl
        have q1 := qL 1 _ rfl
        have q2 := qL 2 _ rfl
        have q3 := qL 3 _ rfl
        have q4 := qL 4 _ rfl
        have q5 := qL 5 _ rfl
        have HQL := Lib.hid qL; clear qL
        have HWL := Lib.hid hWL; clear hWL
        have HK := Lib.hid (fun (W1 W2 : World) (gb cap : Nat) hb hp => R4.bld.pushKeeps (N := W.heap.size) (p := linVol name vid hidden n D.name s) (u := [.string name, .int .u64 vid, .bool hidden, .bool false, .slice none 0 0, .slice (some ⟨w2.heap.size + 1 + 1, 0, none⟩) 1 1]) (w1 := W1) (w2 := W2) (gb := gb) (cap := cap) hb hp)
        have HRdy := Lib.hid (R4.bld.ready RV)
        have HPu := Lib.hid (fun (W1 W2 : World) (gb cap : Nat) hb hp => R4.push (N := W.heap.size) (p := linVol name vid hidden n D.name s) (u := [.string name, .int .u64 vid, .bool hidden, .bool false, .slice none 0 0, .slice (some ⟨w2.heap.size + 1 + 1, 0, none⟩) 1 1]) (w1 := W1) (w2 := W2) (gb := gb) (cap := cap) hb hp (Nat.le_refl _))
        refine wp_region_E (fun w' => w'.cell? ⟨bb, 8, none⟩ = some vv ∧ w'.cell? ⟨L, 0, none⟩ = some (.string name) ∧ w'.cell? ⟨L, 1, none⟩ = some (.int .u64 vid) ∧ w'.cell? ⟨L, 2, none⟩ = some (.bool hidden) ∧ w'.cell? ⟨L, 3, none⟩ = some (.bool false) ∧ w'.cell? ⟨L, 4, none⟩ = some (.slice none 0 0) ∧ w'.cell? ⟨L, 5, none⟩ = some (.slice (some ⟨w2.heap.size + 1 + 1, 0, none⟩) 1 1)) 8 [0, 1, 2, 3, 4] (by kernel_rfl) (by simp [q8, q0, q1, q2, q3, q4, q5]) (fun hHeld => ?_)
        (refine wpAnyE_takeW (i := 0) (v := ?_) rfl rfl (by kernel_rfl) (fun _ _ _ h => h) (Or.inl ⟨by rfl, ?_⟩) ?_; rotate_left; (intro w _; go_simp; (try (with_reducible rfl))); (try simp only [Act.put, List.setIfInBounds_toArray, List.set_cons_zero, List.set_cons_succ])); (refine wpAnyE_takeW (i := 1) (v := ?_) rfl rfl (by kernel_rfl) (fun _ _ _ h => h) (Or.inl ⟨by rfl, ?_⟩) ?_; rotate_left; (intro w _; go_simp; (try (with_reducible rfl))); (try simp only [Act.put, List.setIfInBounds_toArray, List.set_cons_zero, List.set_cons_succ])); (refine wpAnyE_takeW (i := 2) (v := ?_) rfl rfl (by kernel_rfl) (fun _ _ _ h => h) (Or.inl ⟨by rfl, ?_⟩) ?_; rotate_left; (intro w _; go_simp; (try (with_reducible rfl))); (try simp only [Act.put, List.setIfInBounds_toArray, List.set_cons_zero, List.set_cons_succ])); (refine wpAnyE_takeW (i := 3) (v := ?_) rfl rfl (by kernel_rfl) (fun _ _ _ h => h) (Or.inl ⟨by rfl, ?_⟩) ?_; rotate_left; (intro w _; go_simp; (try (with_reducible rfl))); (try simp only [Act.put, List.setIfInBounds_toArray, List.set_cons_zero, List.set_cons_succ])); (refine wpAnyE_takeW (i := 4) (v := ?_) rfl rfl (by kernel_rfl) (fun _ _ _ h => h) (Or.inl ⟨by rfl, ?_⟩) ?_; rotate_left; (intro w _; go_simp; (try (with_reducible rfl))); (try simp only [Act.put, List.setIfInBounds_toArray, List.set_cons_zero, List.set_cons_succ])); (refine wpAnyE_take (i := 5) (v := ?_) rfl rfl (by kernel_rfl) (fun _ _ _ h => h) (Or.inl ⟨by rfl, ?_⟩) hHeld ?_; rotate_left; (intro w hSw; (try dsimp only at hSw); go_simp; (try (with_reducible rfl))); (try simp only [Act.put, List.setIfInBounds_toArray, List.set_cons_zero, List.set_cons_succ])); (refine wpAnyE_take (i := 6) (v := ?_) rfl rfl (by kernel_rfl) (fun _ _ _ h => h) (Or.inl ⟨by rfl, ?_⟩) hHeld ?_; rotate_left; (intro w hSw; (try dsimp only at hSw); go_simp; (try (with_reducible rfl))); (try simp only [Act.put, List.setIfInBounds_toArray, List.set_cons_zero, List.set_cons_succ]))
        refine wpAnyE_step (i := 7) rfl rfl (by kernel_rfl) (fun K hK => ?_)
        go_simp
        have hbel : Below W.heap.size W ((W.alloc (.cells #[.string name, .int .u64 vid, .bool hidden, .bool false, .slice none 0 0, .slice (some ⟨w2.heap.size + 1 + 1, 0, none⟩) 1 1] 56)).drew) := (below_alloc _ _).drew
        have hcn : ∀ (j : Nat) (y : Value), [Value.string name, .int .u64 vid, .bool hidden, .bool false, .slice none 0 0, .slice (some ⟨w2.heap.size + 1 + 1, 0, none⟩) 1 1][j]? = some y → ((W.alloc (.cells #[.string name, .int .u64 vid, .bool hidden, .bool false, .slice none 0 0, .slice (some ⟨w2.heap.size + 1 + 1, 0, none⟩) 1 1] 56)).drew).cell? ⟨W.heap.size, j, none⟩ = some y := fun j y hy => by
          show (W.alloc _).cell? _ = _
          exact cell_new rfl (by simpa using hy)
        have hwz : W.heap.size + 1 = ((W.alloc (.cells #[.string name, .int .u64 vid, .bool hidden, .bool false, .slice none 0 0, .slice (some ⟨w2.heap.size + 1 + 1, 0, none⟩) 1 1] 56)).drew).heap.size := by simp
        have hbS : ∀ w' : World, w'.heap[bb]? = W.heap[bb]? → w'.heap[L]? = W.heap[L]? → w'.cell? ⟨bb, 8, none⟩ = some vv ∧ w'.cell? ⟨L, 0, none⟩ = some (.string name) ∧ w'.cell? ⟨L, 1, none⟩ = some (.int .u64 vid) ∧ w'.cell? ⟨L, 2, none⟩ = some (.bool hidden) ∧ w'.cell? ⟨L, 3, none⟩ = some (.bool false) ∧ w'.cell? ⟨L, 4, none⟩ = some (.slice none 0 0) ∧ w'.cell? ⟨L, 5, none⟩ = some (.slice (some ⟨w2.heap.size + 1 + 1, 0, none⟩) 1 1) := fun w' e1 e2 =>
          ⟨(World.cell?_of_block (w := W) e1).trans q8, (World.cell?_of_block (w := W) e2).trans q0, (World.cell?_of_block (w := W) e2).trans q1, (World.cell?_of_block (w := W) e2).trans q2, (World.cell?_of_block (w := W) e2).trans q3, (World.cell?_of_block (w := W) e2).trans q4, (World.cell?_of_block (w := W) e2).trans q5⟩
        generalize hW1 : (W.alloc (.cells #[.string name, .int .u64 vid, .bool hidden, .bool false, .slice none 0 0, .slice (some ⟨w2.heap.size + 1 + 1, 0, none⟩) 1 1] 56)).drew = W1 at *
        clear hW1
        refine hK.out _ _ (hbS _ (hbel.block bb hbw) (hbel.block L (lt_of_block HWL.out))) ?_
        clear hK K
        refine wpAnyE_tail (by kernel_rfl) rfl ?_
        simp only [List.drop_succ_cons, List.drop_zero]
        refine wpl_pushS vVol.moves Try.underlying49 HI.out H0.out H1.out H2.out rfl (by decide) (by decide) rfl _ _ (by rfl) (bb + 1) (fun b => okB (addX X L) bb nv vv b ∧ b < W.heap.size) vv g.vols (linVol name vid hidden n D.name s) (by rfl) (HRdy.out _ hbel).1 W.heap.size 1 [.string name, .int .u64 vid, .bool hidden, .bool false, .slice none 0 0, .slice (some ⟨w2.heap.size + 1 + 1, 0, none⟩) 1 1] (by rfl) (by rfl) (HRdy.out _ hbel).2 (by simp [Value.oneCell']) hcn (by omega) (by omega) okB_own (fun gb cap w3 hp => ?_)
        obtain ⟨hx1, hx2⟩ := HK.out _ w3 gb cap hbel hp
        have y8 := (World.cell?_of_block (w := W) (w' := w3) (a := ⟨bb, 8, none⟩) hx1).trans q8
        have yf := (World.frozen?_of_block (w := W) (w' := w3) (a := ⟨bb, 8, none⟩) hx1).trans qf
        have R5 := HPu.out _ w3 gb cap hbel hp
        have hlast := hp.last 5 _ rfl
        have HLast := Lib.hid hlast; clear hlast
        have HB3 := Lib.hid hx1
        have hgb : gb ≠ bb := by
          rintro rfl
          obtain ⟨cs, ho, _⟩ := hp.own
          have := (ho.lt gb rfl).1
          omega
        clear hp hx1 hx2 hbS hcn
        simp only [Act.put, List.setIfInBounds_toArray, List.set_cons_zero, List.set_cons_succ]
        go_wp2
        go_ret
        have hv := HID.out
        subst hv
        refine .inr ⟨D.name, s, _, _, .snoc (.nil _) HD.out HM.out hs1 hs2 hn0, rfl, R5.fewer (fun k hk => .inl hk), gb, cap, w2.heap.size + 1 + 1, rfl, ?_⟩
        exact (World.cell?_of_block (w := w3) (Below.heap_setCell _ _ _ _ hgb)).trans HLast.out
    · go_wp2
      go_ret
      exact .inl ⟨rfl, P.fewer (fun k hk => .inl hk)⟩

end Go.Proofs.Yteengifhndmjeaa
