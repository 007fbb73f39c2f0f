/- builder.more. builder.more: the state on the way. -/
import Derived.Test.YteengifhndmjeaaMkK
import Derived.IntWalk
namespace Go.Proofs.Yteengifhndmjeaa
open Go.RowKit

def addSeg (start n kind : Int) (areas : List AreaM) (done : Int) : SegM := ⟨start, n, kind, areas, 0, [], es, es, 0, 0, done⟩
def sumLen (l : List SegM) : Int := (l.map (·.length)).sum
/-- The pieces of a segment on disks. -/
def segPs (x : SegM) : List (ByteArray × Int × Int) := if x.kind = 1 ∨ x.kind = 8 then x.areas.map fun a => (a.on, a.start, x.length) else []

/-- Segments that 'more' adds. -/
inductive MoreS (l : List SegM) : List SegM → Prop
  | nil : MoreS l l
  | void {l' : List SegM} {n kind : Int} (h : MoreS l l') (hn : 1 ≤ n ∧ n ≤ 3) (hk : kind = 9 ∨ kind = 10) : MoreS l (l' ++ [addSeg (sumLen l') n kind [] 0])
  | lin {l' : List SegM} {n s : Int} {on : ByteArray} (h : MoreS l l') (hn : 1 ≤ n ∧ n ≤ 3) : MoreS l (l' ++ [addSeg (sumLen l') n 1 [⟨false, on, s⟩] 0])
  | move {l' : List SegM} {n s s' dn : Int} {on on' : ByteArray} (h : MoreS l l') (hn : 1 ≤ n ∧ n ≤ 3) (hd : 0 ≤ dn ∧ dn ≤ n) : MoreS l (l' ++ [addSeg (sumLen l') n 8 [⟨false, on, s⟩, ⟨false, on', s'⟩] dn])

theorem OwnS.ge0 {α : Type} {V : Rdr α} {sz B : Nat} {t : TypeId} {ok : Nat → Prop} {w : World} {v : Value} {l : List α} (h : OwnS V sz t B ok w v l) {k : Nat} (e : v.ownBlock = some k) : B ≤ k ∧ k < w.heap.size := by
  obtain ⟨cs, ho, _⟩ := h
  exact ho.lt k e

def moreY (X : Nat → Prop) (Lv : Nat) (sv : Value) : Nat → Prop := fun k => X k ∨ k = Lv ∨ k = Lv + 1 ∨ ownB (Lv + 1 + 1) sv k

/-- The state of 'more' between two rounds. -/
structure MSt (X : Nat → Prop) (bs bb : Nat) (nv vv : Value) (g : GroupM) (next : List Int) (w0 : World) (Lv : Nat) (cs : Value → Array Value) (l0 : List SegM) (sv : Value) (segs : List SegM) (ps : List (ByteArray × Int × Int)) (nx : List Int) (w : World) : Prop where
  post : BPost (moreY X Lv sv) bs bb nv vv w0 w nv vv g nx
  bv : w.heap[Lv]? = some (.cells (cs sv) 56 (0, 0))
  br : ∃ zs : Array Value, zs.size = 6 ∧ w.heap[Lv + 1]? = some (.cells zs 56 (0, 0))
  st : StS vSeg 11 101 (Lv + 1 + 1) (okB (moreY X Lv sv) bb nv vv) w sv segs
  more : MoreS l0 segs
  took : Took g.disks next ps nx
  sub : List.Sublist ((segs.drop l0.length).flatMap segPs) ps
  len : ∀ x ∈ segs, 0 ≤ x.length ∧ x.length ≤ 1000
  lv : w0.heap.size ≤ Lv
  hB : Lv + 1 + 1 ≤ w.heap.size

section
variable {X : Nat → Prop} {bs bb : Nat} {nv vv : Value} {g : GroupM} {next : List Int} {w0 w w' : World} {Lv : Nat} {cs : Value → Array Value} {l0 segs : List SegM} {sv : Value} {ps ps' : List (ByteArray × Int × Int)} {nx nx' : List Int}
/-- Behind a call of the builder that leaves its volumes and what is the callers'. -/
theorem MSt.step (h : MSt X bs bb nv vv g next w0 Lv cs l0 sv segs ps nx w) (q : BPost (moreY X Lv sv) bs bb nv vv w w' nv vv g nx') (ht : Took g.disks nx ps' nx') : MSt X bs bb nv vv g next w0 Lv cs l0 sv segs (ps ++ ps') nx' w' := by
  obtain ⟨zs, hz, hr⟩ := h.br
  exact ⟨h.post.trans q, (q.loc h.post.bld (.inr (.inl rfl))).trans h.bv, ⟨zs, hz, (q.loc h.post.bld (.inr (.inr (.inl rfl)))).trans hr⟩, h.st.moves vSeg.moves ⟨q.mod.size, fun b hb ho => ⟨ho, q.loc' h.post.bld ho hb⟩⟩ (fun k hk => q.loc h.post.bld (.inr (.inr (.inr hk)))), h.more, h.took.trans ht, h.sub.trans (List.sublist_append_left _ _), h.len, h.lv, Nat.le_trans h.hB q.mod.size⟩
theorem MSt.below (h : MSt X bs bb nv vv g next w0 Lv cs l0 sv segs ps nx w) (hb : Below w.heap.size w w') : MSt X bs bb nv vv g next w0 Lv cs l0 sv segs ps nx w' := by
  have := h.step ((BPost.refl h.post.bld).after hb) (.nil _)
  simpa using this
theorem MSt.read (h : MSt X bs bb nv vv g next w0 Lv cs l0 sv segs ps nx w) (hs : Src w' bs) (hm : Mod (fun i => i = bs) w w') : MSt X bs bb nv vv g next w0 Lv cs l0 sv segs ps nx w' := by
  have := h.step (h.post.bld.readPost hs hm) (.nil _)
  simpa using this
/-- A new block of the caller's own. -/
theorem MSt.fresh (h : MSt X bs bb nv vv g next w0 Lv cs l0 sv segs ps nx w) (o : Obj) : MSt (addX X w.heap.size) bs bb nv vv g next w0 Lv cs l0 sv segs ps nx (w.alloc o) := by
  have hb := below_alloc w o
  have hlv : Lv < w.heap.size := by have := h.hB; omega
  obtain ⟨zs, hz, hr⟩ := h.br
  refine ⟨h.post.fresh hb (fun k hk => ?_), (hb.block Lv hlv).trans h.bv, ⟨zs, hz, (hb.block (Lv + 1) (by have := h.hB; omega)).trans hr⟩, h.st.moves vSeg.moves ⟨hb.size, fun b hb' ho => ⟨⟨ho.1, ho.2.1, ho.2.2.1, fun q => ?_⟩, hb.block b hb'⟩⟩ (fun k hk => hb.block k (h.post.bld.xlt k (.inr (.inr (.inr hk)))).2), h.more, h.took, h.sub, h.len, h.lv, Nat.le_trans h.hB hb.size⟩
  · rcases hk with (q | rfl) | q
    · exact .inl (.inl q)
    · exact .inr ⟨Nat.le_refl _, by simp⟩
    · exact .inl (.inr q)
  · rcases q with (q | rfl) | q
    · exact ho.2.2.2 (.inl q)
    · omega
    · exact ho.2.2.2 (.inr q)
theorem MSt.drop {L : Nat} (h : MSt (addX X L) bs bb nv vv g next w0 Lv cs l0 sv segs ps nx w) : MSt X bs bb nv vv g next w0 Lv cs l0 sv segs ps nx w := by
  have hY : ∀ k, moreY X Lv sv k → moreY (addX X L) Lv sv k := fun k q => q.imp (fun q => .inl q) id
  exact ⟨h.post.fewer hY, h.bv, h.br, h.st.moves vSeg.moves ⟨Nat.le_refl _, fun b _ ho => ⟨⟨ho.1, ho.2.1, ho.2.2.1, fun q => ho.2.2.2 (hY b q)⟩, rfl⟩⟩ (fun _ _ => rfl), h.more, h.took, h.sub, h.len, h.lv, h.hB⟩
theorem MSt.put {L : Nat} (h : MSt (addX X L) bs bb nv vv g next w0 Lv cs l0 sv segs ps nx w) (hL : Lv + 1 + 1 ≤ L) (hsv : sv.ownBlock ≠ some L) (i : Nat) (u : Value) : MSt (addX X L) bs bb nv vv g next w0 Lv cs l0 sv segs ps nx (w.setCell ⟨L, i, none⟩ u) := by
  have kk : ∀ k, k ≠ L → (w.setCell ⟨L, i, none⟩ u).heap[k]? = w.heap[k]? := fun k e => Below.heap_setCell _ _ _ _ e
  have hz : (w.setCell ⟨L, i, none⟩ u).heap.size = w.heap.size := by simp [World.setCell]
  obtain ⟨zs, hzs, hr⟩ := h.br
  exact ⟨h.post.put L i u (.inl (.inr rfl)) (by have := h.lv; omega), (kk Lv (by omega)).trans h.bv, ⟨zs, hzs, (kk (Lv + 1) (by omega)).trans hr⟩, h.st.moves vSeg.moves ⟨by omega, fun b _ ho => ⟨ho, kk b (fun e => ho.2.2.2 (.inl (.inr e)))⟩⟩ (fun k hk => kk k (fun e => hsv (e ▸ hk.1))), h.more, h.took, h.sub, h.len, h.lv, by rw [hz]; exact h.hB⟩
/-- The slice of segments lies among the older blocks. -/
theorem MSt.svLt (h : MSt X bs bb nv vv g next w0 Lv cs l0 sv segs ps nx w) {k : Nat} (e : sv.ownBlock = some k) : k < w.heap.size := by
  rcases h.st with ⟨⟨b, olds, rfl, hb, _⟩, _⟩ | ho
  · obtain rfl : b = k := by injection e
    exact hb
  · exact (ho.ge0 e).2
/-- Behind the append of a segment and the store of the slice. -/
theorem MSt.push {w1 w2 : World} {x : SegM} {gb cap : Nat} (h : MSt X bs bb nv vv g next w0 Lv cs l0 sv segs ps nx w) (hb : Below w.heap.size w w1)
    (hp : PushedT vSeg 11 101 (Lv + 1 + 1) (fun b => okB (moreY X Lv sv) bb nv vv b ∧ b < w.heap.size) w1 sv segs x gb cap w2) (hm : MoreS l0 (segs ++ [x])) (hs : List.Sublist (((segs ++ [x]).drop l0.length).flatMap segPs) ps) (hx : 0 ≤ x.length ∧ x.length ≤ 1000)
    (hcs : ∀ u v, (cs u).setIfInBounds 5 v = cs v) : MSt X bs bb nv vv g next w0 Lv cs l0 (.slice (some ⟨gb, 0, none⟩) (segs.length + 1) cap) (segs ++ [x]) ps nx (w2.setCell ⟨Lv, 5, none⟩ (.slice (some ⟨gb, 0, none⟩) (segs.length + 1) cap)) ∧ w2.heap[Lv]? = some (.cells (cs sv) 56 (0, 0)) := by
  have h1 := h.below hb
  have hlv := h.lv
  have hB := h.hB
  have hz := hb.size
  have hz2 := hp.mod.size
  have kk : ∀ k, k ≠ Lv → (w2.setCell ⟨Lv, 5, none⟩ (.slice (some ⟨gb, 0, none⟩) (segs.length + 1) cap)).heap[k]? = w2.heap[k]? := fun k e => Below.heap_setCell _ _ _ _ e
  have hzz : (w2.setCell ⟨Lv, 5, none⟩ (.slice (some ⟨gb, 0, none⟩) (segs.length + 1) cap)).heap.size = w2.heap.size := by simp [World.setCell]
  have bv2 : w2.heap[Lv]? = some (.cells (cs sv) 56 (0, 0)) := (hp.mod.block Lv (by omega) (fun q => by have := q.2; omega)).trans h1.bv
  have hg := hp.own.ge0 (k := gb) rfl
  have hY : ∀ k, moreY X Lv (.slice (some ⟨gb, 0, none⟩) (segs.length + 1) cap) k → moreY X Lv sv k ∨ (w1.heap.size ≤ k ∧ k < w2.heap.size) := by
    rintro k (q | q | q | q)
    · exact .inl (.inl q)
    · exact .inl (.inr (.inl q))
    · exact .inl (.inr (.inr (.inl q)))
    · obtain rfl : gb = k := by injection q.1
      rcases hp.at' with q | q
      · exact .inl (.inr (.inr (.inr q)))
      · exact .inr ⟨by omega, q.2⟩
  refine ⟨⟨h1.post.move (((hp.mod.mono (G := fun k => moreY X Lv sv k ∧ w0.heap.size ≤ k) (fun k q => ⟨.inr (.inr (.inr q)), by have := q.2; omega⟩))).setCell (p := ⟨Lv, 5, none⟩) (.inl ⟨.inr (.inl rfl), hlv⟩) _) (fun k hk => (hY k hk).imp id (fun q => by rw [hzz]; exact q)), ?_, ?_, .inr ?_, hm, h.took, hs, fun y hy => ?_, hlv, by rw [hzz]; omega⟩, bv2⟩
  · rw [← hcs sv]
    exact block_setCell (i := 5) _ bv2
  · obtain ⟨zs, hzs, hr⟩ := h1.br
    exact ⟨zs, hzs, (kk (Lv + 1) (by omega)).trans ((hp.mod.block (Lv + 1) (by omega) (fun q => by have := q.2; omega)).trans hr)⟩
  · obtain ⟨cl, ho, hf⟩ := hp.own
    refine ⟨cl, ownsRow_keep1 ho fun k e => kk k (by have := (ho.lt k e).1; omega), Flat.moves vSeg.moves ⟨by omega, fun b _ ho => ⟨⟨ho.1.1, ho.1.2.1, ho.1.2.2.1, fun q => ?_⟩, kk b (fun e => ho.1.2.2.2 (.inr (.inl e)))⟩⟩ _ _ hf⟩
    rcases hY b q with q | q
    · exact ho.1.2.2.2 q
    · have := ho.2; omega
  · rcases List.mem_append.1 hy with q | q
    · exact h.len y q
    · simp only [List.mem_cons, List.not_mem_nil, or_false] at q
      rw [q]
      exact hx
end

end Go.Proofs.Yteengifhndmjeaa

namespace Go.Proofs.Yteengifhndmjeaa
open Go.RowKit

def MoreP (X : Nat → Prop) (bs bb : Nat) (nv vv : Value) (g : GroupM) (next : List Int) (name : ByteArray) (id : Int) (hidden ro : Bool) (tv : Value) (x0 : SegM) (w : World) (e : Ending) (w' : World) : Prop :=
  ∃ (sv : Value) (segs : List SegM) (ps : List (ByteArray × Int × Int)) (next' : List Int), e = .returned (.agg #[.string name, .int .u64 id, .bool hidden, .bool ro, tv, sv]) ∧ MoreS [x0] segs ∧ segs.length ≤ 3 ∧ Took g.disks next ps next' ∧ List.Sublist ((segs.drop 1).flatMap segPs) ps ∧
    BPost X bs bb nv vv w w' nv vv g next' ∧ RdS vSeg 11 (okB X bb nv vv) w' [sv] segs

theorem wp_region_N {P : Program} {ops : Array Oper} {Q : Exit → Act → World → Prop} {id : Nat} {a : Act} {w : World} (S : World → Prop) (N : Nat → Bool) (hm : P.follows .mixedOrders = true) (hS : S w.drew)
    (h : S w.drew → wpAnyE P .any ops Q S N ops.size (Array.replicate ops.size false) a w.drew) : (Code.region id ops true).wp P Q a w :=
  wp_region_any hm (wpAny_of_E _ _ _ _ (h hS))
theorem wpAnyE_tailN {P : Program} {Q : Exit → Act → World → Prop} {md : Region.Mode} {S : World → Prop} {N : Nat → Bool} {l : List Oper} {fuel : Nat} {listed : Array Bool} {a : Act} {w : World} (m : Nat) (hN : ∀ t, m ≤ t → N t = false) (hB : Region.seqB md l.toArray (l.toArray.size - m) m listed = true) (hf : fuel = (l.drop m).length) (h : wpList P l.toArray Q (l.drop m) a w) : wpAnyE P md l.toArray Q S N fuel listed a w := by
  rw [hf]
  exact wpAnyE_of_seq (l.drop m) m listed a w hN (fun j => by simp [List.getElem?_drop]) (by simpa using hB) h
/-- Either of two; S behind those of which N holds. -/
theorem wpAnyE_twoN {P : Program} {ops : Array Oper} {Q : Exit → Act → World → Prop} {md : Region.Mode} {S : World → Prop} {N : Nat → Bool} {i j : Nat} {o o' : Oper} {fuel : Nat} {listed : Array Bool} {a : Act} {w : World} (hi : ops[i]? = some o) (hg : o.guard = none) (hj : ops[j]? = some o') (hg' : o'.guard = none) (hr : Region.ready md ops listed = [i, j])
    (h1 : ∀ K : Act → World → Prop, Hid (∀ a' w', (N i = true → S w') → wpAnyE P md ops Q S N fuel (listed.setIfInBounds i true) a' w' → K a' w') → o.wp P a w K Q)
    (h2 : ∀ K : Act → World → Prop, Hid (∀ a' w', (N j = true → S w') → wpAnyE P md ops Q S N fuel (listed.setIfInBounds j true) a' w' → K a' w') → o'.wp P a w K Q) : wpAnyE P md ops Q S N (fuel + 1) listed a w := by
  refine ⟨fun h0 => (by rw [hr] at h0; cases h0), fun k hk => ?_⟩
  rw [hr] at hk
  simp only [List.mem_cons, List.not_mem_nil, or_false] at hk
  rcases hk with rfl | rfl
  · have hw : Region.wanted o (yielded ops a.tmps) = true := by simp [Region.wanted, hg]
    unfold wpOp
    simp only [hi, hw, if_true]
    exact .inl (h1 _ (Lib.hid fun a' w' q1 q2 => ⟨q1, q2⟩))
  · have hw : Region.wanted o' (yielded ops a.tmps) = true := by simp [Region.wanted, hg']
    unfold wpOp
    simp only [hj, hw, if_true]
    exact .inl (h2 _ (Lib.hid fun a' w' q1 q2 => ⟨q1, q2⟩))
theorem wpAnyE_stepN {P : Program} {ops : Array Oper} {Q : Exit → Act → World → Prop} {md : Region.Mode} {S : World → Prop} {N : Nat → Bool} {i : Nat} {o : Oper} {fuel : Nat} {listed : Array Bool} {a : Act} {w : World} (hi : ops[i]? = some o) (hg : o.guard = none) (hr : Region.ready md ops listed = [i])
    (h : ∀ K : Act → World → Prop, Hid (∀ a' w', (N i = true → S w') → wpAnyE P md ops Q S N fuel (listed.setIfInBounds i true) a' w' → K a' w') → o.wp P a w K Q) : wpAnyE P md ops Q S N (fuel + 1) listed a w := by
  refine ⟨fun h0 => (by rw [hr] at h0; cases h0), fun k hk => ?_⟩
  rw [hr] at hk
  obtain rfl : k = i := by simpa using hk
  have hw : Region.wanted o (yielded ops a.tmps) = true := by simp [Region.wanted, hg]
  unfold wpOp
  simp only [hi, hw, if_true]
  exact .inl (h _ (Lib.hid fun a' w' q1 q2 => ⟨q1, q2⟩))

/-- Two operations of which either may come up. -/
theorem wpAnyE_two {P : Program} {ops : Array Oper} {Q : Exit → Act → World → Prop} {md : Region.Mode} {S : World → Prop} {N : Nat → Bool} {i j : Nat} {o o' : Oper} {fuel : Nat} {listed : Array Bool} {a : Act} {w : World} (hi : ops[i]? = some o) (hg : o.guard = none) (hj : ops[j]? = some o') (hg' : o'.guard = none) (hr : Region.ready md ops listed = [i, j])
    (h1 : ∀ K : Act → World → Prop, Hid (∀ a' w', S w' → wpAnyE P md ops Q S N fuel (listed.setIfInBounds i true) a' w' → K a' w') → o.wp P a w K Q)
    (h2 : ∀ K : Act → World → Prop, Hid (∀ a' w', S w' → wpAnyE P md ops Q S N fuel (listed.setIfInBounds j true) a' w' → K a' w') → o'.wp P a w K Q) : wpAnyE P md ops Q S N (fuel + 1) listed a w := by
  refine ⟨fun h0 => (by rw [hr] at h0; cases h0), fun k hk => ?_⟩
  rw [hr] at hk
  simp only [List.mem_cons, List.not_mem_nil, or_false] at hk
  rcases hk with rfl | rfl
  · have hw : Region.wanted o (yielded ops a.tmps) = true := by simp [Region.wanted, hg]
    unfold wpOp
    simp only [hi, hw, if_true]
    exact .inl (h1 _ (Lib.hid fun a' w' q1 q2 => ⟨fun _ => q1, q2⟩))
  · have hw : Region.wanted o' (yielded ops a.tmps) = true := by simp [Region.wanted, hg']
    unfold wpOp
    simp only [hj, hw, if_true]
    exact .inl (h2 _ (Lib.hid fun a' w' q1 q2 => ⟨fun _ => q1, q2⟩))

/-- The state of 'more' with a segment in a block of its own. -/
structure MStL (X : Nat → Prop) (bs bb : Nat) (nv vv : Value) (g : GroupM) (next : List Int) (w0 : World) (Lv : Nat) (cs : Value → Array Value) (l0 : List SegM) (sv : Value) (segs : List SegM) (ps : List (ByteArray × Int × Int)) (nx : List Int) (L : Nat) (xs : Array Value) (w : World) : Prop where
  m : MSt X bs bb nv vv g next w0 Lv cs l0 sv segs ps nx w
  lx : w.heap[L]? = some (.cells xs 101 (0, 0))
  xl : X L
section
variable {X : Nat → Prop} {bs bb : Nat} {nv vv : Value} {g : GroupM} {next : List Int} {w0 w w' : World} {Lv L A : Nat} {cs : Value → Array Value} {l0 segs : List SegM} {sv : Value} {ps ps' : List (ByteArray × Int × Int)} {nx nx' : List Int} {xs : Array Value}
theorem MStL.step (h : MStL X bs bb nv vv g next w0 Lv cs l0 sv segs ps nx L xs w) (q : BPost (moreY X Lv sv) bs bb nv vv w w' nv vv g nx') (ht : Took g.disks nx ps' nx') : MStL X bs bb nv vv g next w0 Lv cs l0 sv segs (ps ++ ps') nx' L xs w' :=
  ⟨h.m.step q ht, (q.loc h.m.post.bld (.inl h.xl)).trans h.lx, h.xl⟩
theorem MStL.below (h : MStL X bs bb nv vv g next w0 Lv cs l0 sv segs ps nx L xs w) (hb : Below w.heap.size w w') : MStL X bs bb nv vv g next w0 Lv cs l0 sv segs ps nx L xs w' := ⟨h.m.below hb, (hb.block L (lt_of_block h.lx)).trans h.lx, h.xl⟩
theorem MStL.read (h : MStL X bs bb nv vv g next w0 Lv cs l0 sv segs ps nx L xs w) (hs : Src w' bs) (hm : Mod (fun i => i = bs) w w') : MStL X bs bb nv vv g next w0 Lv cs l0 sv segs ps nx L xs w' :=
  ⟨h.m.read hs hm, ((h.m.post.bld.readPost hs hm).loc h.m.post.bld (.inl h.xl)).trans h.lx, h.xl⟩
theorem MStL.fresh (h : MStL X bs bb nv vv g next w0 Lv cs l0 sv segs ps nx L xs w) (o : Obj) : MStL (addX X w.heap.size) bs bb nv vv g next w0 Lv cs l0 sv segs ps nx L xs (w.alloc o) :=
  ⟨h.m.fresh o, (Below.heap_alloc _ _ _ (lt_of_block h.lx)).trans h.lx, .inl h.xl⟩
theorem MStL.put (h : MStL (addX X A) bs bb nv vv g next w0 Lv cs l0 sv segs ps nx L xs w) (hA : Lv + 1 + 1 ≤ A) (hsv : sv.ownBlock ≠ some A) (hne : L ≠ A) (i : Nat) (u : Value) : MStL (addX X A) bs bb nv vv g next w0 Lv cs l0 sv segs ps nx L xs (w.setCell ⟨A, i, none⟩ u) :=
  ⟨h.m.put hA hsv i u, (Below.heap_setCell _ _ _ _ hne).trans h.lx, h.xl⟩
end

theorem cellsI_new (w : World) (t : TypeId) (l : List Int) : CellsI (w.alloc (.cells (l.map (Value.int .i64)).toArray t)) w.heap.size 0 l := fun i v hv => cell_new rfl (by simp [hv])

theorem sumLen_take_succ (l : List SegM) (k : Nat) (x : SegM) (h : l[k]? = some x) : sumLen (l.take (k + 1)) = sumLen (l.take k) + x.length := by
  rw [take_snoc' l k x h]
  simp [sumLen]
theorem sumLen_bd (l : List SegM) (h : ∀ x ∈ l, 0 ≤ x.length ∧ x.length ≤ 1000) : 0 ≤ sumLen l ∧ sumLen l ≤ 1000 * l.length := by
  induction l with
  | nil => simp [sumLen]
  | cons x l ih =>
    have h1 := h x (List.mem_cons_self ..)
    have h2 := ih fun y hy => h y (List.mem_cons_of_mem _ hy)
    simp only [sumLen, List.map_cons, List.sum_cons, List.length_cons] at h2 ⊢
    omega

theorem MoreS.len {l l' : List SegM} (h : MoreS l l') : l.length ≤ l'.length := by
  induction h with
  | nil => exact Nat.le_refl _
  | void _ _ _ ih => simp; omega
  | lin _ _ ih => simp; omega
  | move _ _ _ ih => simp; omega
theorem MoreS.sub {l0 segs : List SegM} {ps ps1 : List (ByteArray × Int × Int)} {x : SegM} (h : MoreS l0 segs) (hs : List.Sublist ((segs.drop l0.length).flatMap segPs) ps) (hx : segPs x = ps1) : List.Sublist (((segs ++ [x]).drop l0.length).flatMap segPs) (ps ++ ps1) := by
  rw [List.drop_append_of_le_length h.len, List.flatMap_append]
  refine hs.append ?_
  simp [hx]

/-- The region of a number. -/
def regOf (n : Nat) : Code → Option Code
  | .region m o d => bif Nat.beq m n then some (.region m o d) else none
  | .seq a b => match regOf n a with
    | some c => some c
    | none => regOf n b
  | .block _ c => regOf n c
  | .loop c => regOf n c
  | .scope c => regOf n c
  | .cond _ a b => match regOf n a with
    | some c => some c
    | none => regOf n b
  | _ => none
/-- A region of 'more'. -/
noncomputable def moreReg (n : Nat) : Code := ((Try.f57.body.bind (regOf n)).getD .skip)

section
variable {X : Nat → Prop} {bs bb : Nat} {nv vv : Value} {g : GroupM} {next : List Int} {w0 w w' : World} {Lv L A : Nat} {cs : Value → Array Value} {l0 segs : List SegM} {sv : Value} {ps ps' : List (ByteArray × Int × Int)} {nx nx' : List Int} {xs : Array Value}
theorem MStL.drop (h : MStL (addX X A) bs bb nv vv g next w0 Lv cs l0 sv segs ps nx L xs w) (hX : X L) : MStL X bs bb nv vv g next w0 Lv cs l0 sv segs ps nx L xs w := ⟨h.m.drop, h.lx, hX⟩
theorem MSt.putX (h : MSt X bs bb nv vv g next w0 Lv cs l0 sv segs ps nx w) (hX : X L) (hL : Lv + 1 + 1 ≤ L) (hsv : sv.ownBlock ≠ some L) (i : Nat) (u : Value) : MSt X bs bb nv vv g next w0 Lv cs l0 sv segs ps nx (w.setCell ⟨L, i, none⟩ u) := by
  have kk : ∀ k, k ≠ L → (w.setCell ⟨L, i, none⟩ u).heap[k]? = w.heap[k]? := fun k e => Below.heap_setCell _ _ _ _ e
  have hz : (w.setCell ⟨L, i, none⟩ u).heap.size = w.heap.size := by simp [World.setCell]
  obtain ⟨zs, hzs, hr⟩ := h.br
  exact ⟨h.post.put L i u (.inl hX) (by have := h.lv; omega), (kk Lv (by omega)).trans h.bv, ⟨zs, hzs, (kk (Lv + 1) (by omega)).trans hr⟩, h.st.moves vSeg.moves ⟨by omega, fun b _ ho => ⟨ho, kk b (fun e => ho.2.2.2 (.inl (e ▸ hX)))⟩⟩ (fun k hk => kk k (fun e => hsv (e ▸ hk.1))), h.more, h.took, h.sub, h.len, h.lv, by rw [hz]; exact h.hB⟩
/-- The areas of a segment become a slice of one. -/
theorem MStL.lit (h : MStL X bs bb nv vv g next w0 Lv cs l0 sv segs ps nx L xs w) (hL : Lv + 1 + 1 ≤ L) (hsv : sv.ownBlock ≠ some L) (us : Array Value) :
    MStL (addX X w.heap.size) bs bb nv vv g next w0 Lv cs l0 sv segs ps nx L (xs.setIfInBounds 3 (.slice (some ⟨w.heap.size, 0, none⟩) 1 1)) ((w.alloc (.cells us 98)).setCell ⟨L, 3, none⟩ (.slice (some ⟨w.heap.size, 0, none⟩) 1 1)) ∧
    ((w.alloc (.cells us 98)).setCell ⟨L, 3, none⟩ (.slice (some ⟨w.heap.size, 0, none⟩) 1 1)).heap[w.heap.size]? = some (.cells us 98 (0, 0)) ∧ okB (moreY X Lv sv) bb nv vv w.heap.size := by
  have h1 := h.fresh (.cells us 98)
  have hlt := lt_of_block h.lx
  exact ⟨⟨h1.m.putX (.inl h.xl) hL hsv 3 _, block_setCell (i := 3) _ h1.lx, h1.xl⟩, (Below.heap_setCell _ _ _ _ (show w.heap.size ≠ L by omega)).trans (heap_alloc_new w _), h.m.post.bld.okNew (Nat.le_refl _)⟩
/-- area, called by 'more'. -/
theorem MStL.area (h : MStL X bs bb nv vv g next w0 Lv cs l0 sv segs ps nx L xs w) (hk : BOk g next) (d : Nat) (hd : d < g.disks.length) (n : Int) (hn0 : 1 ≤ n) (hn1 : n ≤ 1000) :
    Calls Try.prog 73 #[.pointer (some ⟨bb, 0, none⟩), .int .i64 d, .int .i64 n] w fun e w' => ∃ (on : ByteArray) (s : Int) (ok : Bool) (ps1 : List (ByteArray × Int × Int)) (nx1 : List Int), e = .returned (.tuple #[.agg #[.bool false, .string on, .int .i64 s], .bool ok]) ∧ (ok = true → ps1 = [(on, s, n)]) ∧
      MStL X bs bb nv vv g next w0 Lv cs l0 sv segs (ps ++ ps1) nx1 L xs w' ∧ w'.heap[bb]? = w.heap[bb]? ∧ (∀ k, X k → w'.heap[k]? = w.heap[k]?) := by
  have dk := h.m.took.ok hk.dk
  obtain ⟨D, hD⟩ := getSome g.disks d hd
  obtain ⟨m, hm⟩ := getSome nx d (by rw [dk.len]; exact hd)
  have hmb := dk.nx d m hm
  refine (area_any (moreY X Lv sv) bs bb nv vv g nx _ h.m.post.bld d D m n hD hm hmb.1 (by omega) (by omega) (by omega)).mono ?_
  rintro e w' (⟨rfl, Q, hb⟩ | ⟨s, hs1, hs2, rfl, Q, hb⟩)
  · exact ⟨es, 0, false, [], nx, rfl, (fun e => by cases e), h.step Q (.nil _), hb, fun k q => Q.loc h.m.post.bld (.inl q)⟩
  · exact ⟨D.name, s, true, [(D.name, s, n)], _, rfl, (fun _ => rfl), h.step Q (.snoc (.nil _) hD hm hs1 hs2 hn0), hb, fun k q => Q.loc h.m.post.bld (.inl q)⟩
end
theorem block3 {w : World} {A : Nat} {t : TypeId} {z0 z1 z2 : Value} (h : w.heap[A]? = some (.cells #[z0, z1, z2] t (0, 0))) (v0 v1 v2 : Value) : (((w.setCell ⟨A, 0, none⟩ v0).setCell ⟨A, 1, none⟩ v1).setCell ⟨A, 2, none⟩ v2).heap[A]? = some (.cells #[v0, v1, v2] t (0, 0)) :=
  block_setCell (i := 2) _ (block_setCell (i := 1) _ (block_setCell (i := 0) _ h))

end Go.Proofs.Yteengifhndmjeaa
