/- Src.Group: the builder while its disks are made. -/
import Derived.Test.YteengifhndmjeaaMkR
import Derived.Test.YteengifhndmjeaaMkP
namespace Go.Proofs.Yteengifhndmjeaa
open Go.RowKit

theorem flat_vInt {ok : Nat → Prop} {w : World} : ∀ (l : List Int) (cs : List Value), Flat vInt 1 ok w cs l → cs = l.map (Value.int .i64)
  | [], _, h => h
  | x :: l, _, ⟨u, r, e, h1, h2, h3, h4⟩ => by
    have := flat_vInt l r h4
    rw [e, this, show u = [.int .i64 x] from h2]
    rfl
theorem flat_ofInt {ok : Nat → Prop} {w : World} : ∀ l : List Int, Flat vInt 1 ok w (l.map (Value.int .i64)) l
  | [] => rfl
  | x :: l => ⟨[.int .i64 x], l.map (Value.int .i64), rfl, rfl, rfl, by simp [Value.oneCell'], flat_ofInt l⟩
theorem OwnI.ownS {w : World} {B : Nat} {v : Value} {l : List Int} (h : OwnI w B v l) (ok : Nat → Prop) : OwnS vInt 1 3 B ok w v l := ⟨_, h, flat_ofInt l⟩
theorem OwnS.ownI {w : World} {B : Nat} {v : Value} {l : List Int} {ok : Nat → Prop} (h : OwnS vInt 1 3 B ok w v l) : OwnI w B v l := by
  obtain ⟨cs, h1, h2⟩ := h
  rw [flat_vInt l cs h2] at h1
  exact h1

/-- The system, the tape and the output are as they were. -/
structure Str (w0 w : World) : Prop where
  os : w.os = w0.os
  tape : w.tape = w0.tape
  output : w.output = w0.output
theorem Str.refl (w : World) : Str w w := ⟨rfl, rfl, rfl⟩
theorem Str.trans {a b c : World} (h : Str a b) (k : Str b c) : Str a c := ⟨k.os.trans h.os, k.tape.trans h.tape, k.output.trans h.output⟩
theorem Mod.str {F : Nat → Prop} {a b : World} (h : Mod F a b) : Str a b := ⟨h.os, h.tape, h.output⟩
theorem below_str {B : Nat} {a b : World} (h : Below B a b) : Str a b := ⟨h.os, h.tape, h.output⟩
theorem grown_str {a b : World} {row : Option Nat} (h : a.grownBy b row) : Str a b := ⟨h.os, h.tape, h.output⟩

/-- 'pv', 'vg', 'old'. -/
def pvT : ByteArray := ⟨#[112, 118]⟩
def vgT : ByteArray := ⟨#[118, 103]⟩
def oldT : ByteArray := ⟨#[111, 108, 100]⟩
/-- What a disk with a number is like. -/
structure DiskOk (k : Nat) (D : DiskM) : Prop where
  name : D.name = pvT ++ digit k
  id : D.id = k + 1
  first : 8 ≤ D.first ∧ D.first ≤ 16
  ext : D.extents ∈ ([0, 4, 12, 30, 60] : List Int)
  tags : List.Sublist D.tags tagL

def okD (bb : Nat) (dv nv : Value) : Nat → Prop := fun b => bb < b ∧ dv.ownBlock ≠ some b ∧ nv.ownBlock ≠ some b
structure DSt (bs bb : Nat) (id seq ext : Int) (tags : List ByteArray) (w0 : World) (tv dv nv : Value) (disks : List DiskM) (next : List Int) (w : World) : Prop where
  src : Src w bs
  lt : bs < bb
  blk : w.heap[bb]? = some (.cells #[.pointer (some ⟨bs, 0, none⟩), .string vgT, .int .u64 id, .int .i64 seq, .int .i64 ext, .int .i64 0, tv, dv, .slice none 0 0, .slice none 0 0, nv] 79 (0, 0))
  rt : RdS vStr 1 (okD bb dv nv) w [tv] tags
  ownD : OwnS vDisk 7 59 (bb + 1) (okD bb dv nv) w dv disks
  ownN : OwnI w (bb + 1) nv next
  ne : ∀ k, dv.ownBlock = some k → nv.ownBlock ≠ some k
  old : ∀ k, k < bb → k ≠ bs → w.heap[k]? = w0.heap[k]?
  str : Str w0 w

section
variable {bs bb : Nat} {id seq ext : Int} {tags : List ByteArray} {w0 w w' w2 : World} {tv dv nv : Value} {disks : List DiskM} {next : List Int}
theorem DSt.bbLt (h : DSt bs bb id seq ext tags w0 tv dv nv disks next w) : bb < w.heap.size := lt_of_block h.blk
theorem DSt.dLt (h : DSt bs bb id seq ext tags w0 tv dv nv disks next w) {k : Nat} (e : dv.ownBlock = some k) : bb < k ∧ k < w.heap.size := by
  have := h.ownD.ge0 e
  omega
theorem DSt.nLt (h : DSt bs bb id seq ext tags w0 tv dv nv disks next w) {k : Nat} (e : nv.ownBlock = some k) : bb < k ∧ k < w.heap.size := by
  have := h.ownN.lt k e
  omega
theorem DSt.okNew (h : DSt bs bb id seq ext tags w0 tv dv nv disks next w) {k : Nat} (hk : w.heap.size ≤ k) : okD bb dv nv k := ⟨by have := h.bbLt; omega, fun e => by have := h.dLt e; omega, fun e => by have := h.nLt e; omega⟩
theorem DSt.keep (h : DSt bs bb id seq ext tags w0 tv dv nv disks next w) (hst : Str w w') (hs : Src w' bs) (hz : w.heap.size ≤ w'.heap.size) (hk : ∀ k, k < w.heap.size → k ≠ bs → w'.heap[k]? = w.heap[k]?) : DSt bs bb id seq ext tags w0 tv dv nv disks next w' := by
  have hl := h.lt
  have hb := h.bbLt
  have hm : Mv (okD bb dv nv) (okD bb dv nv) w w' := ⟨hz, fun b hb ho => ⟨ho, hk b hb (by have := ho.1; omega)⟩⟩
  refine ⟨hs, hl, (hk bb hb (by omega)).trans h.blk, (RdS.moves vStr.moves).mv hm h.rt, ?_, ownsRow_keep1 h.ownN fun k e => hk k (h.nLt e).2 (by have := (h.nLt e).1; omega), h.ne, fun k h1 h2 => (hk k (by omega) h2).trans (h.old k h1 h2), h.str.trans hst⟩
  have hvl := fun k e => h.dLt (k := k) e
  obtain ⟨cs, ho, hf⟩ := h.ownD
  exact ⟨cs, ownsRow_keep1 ho fun k e => hk k (hvl k e).2 (by have := (hvl k e).1; omega), Flat.moves vDisk.moves hm _ _ hf⟩
theorem DSt.read (h : DSt bs bb id seq ext tags w0 tv dv nv disks next w) (hs : Src w' bs) (hm : Mod (fun i => i = bs) w w') : DSt bs bb id seq ext tags w0 tv dv nv disks next w' := h.keep hm.str hs hm.size fun k hk hn => hm.block k hk hn
theorem DSt.below (h : DSt bs bb id seq ext tags w0 tv dv nv disks next w) (hb : Below w.heap.size w w') : DSt bs bb id seq ext tags w0 tv dv nv disks next w' :=
  h.keep (below_str hb) (h.src.keep fun i hi => hb.block i (by have := h.lt; have := h.bbLt; omega)) hb.size fun k hk _ => hb.block k hk
/-- A disk more: behind the append and the store of the slice. -/
theorem DSt.pushD {D : DiskM} {u : List Value} {gb cap : Nat} (h : DSt bs bb id seq ext tags w0 tv dv nv disks next w)
    (hp : Pushed vDisk 7 59 (bb + 1) (fun b => okD bb dv nv b ∧ b < w.heap.size) w dv disks D u gb cap w2) :
    DSt bs bb id seq ext tags w0 tv (.slice (some ⟨gb, 0, none⟩) (disks.length + 1) cap) nv (disks ++ [D]) next (w2.setCell ⟨bb, 7, none⟩ (.slice (some ⟨gb, 0, none⟩) (disks.length + 1) cap)) ∧ w2.heap[bb]? = w.heap[bb]? := by
  have hl := h.lt
  have hb := h.bbLt
  have hz := hp.grown.size
  have kw : ∀ k, k < w.heap.size → dv.ownBlock ≠ some k → w2.heap[k]? = w.heap[k]? := fun k h1 h2 => hp.grown.block k h1 fun e => h2 e.symm
  have hbb : w2.heap[bb]? = w.heap[bb]? := kw bb hb fun e => by have := h.dLt e; omega
  have kk : ∀ k, k ≠ bb → (w2.setCell ⟨bb, 7, none⟩ (.slice (some ⟨gb, 0, none⟩) (disks.length + 1) cap)).heap[k]? = w2.heap[k]? := fun k e => Below.heap_setCell _ _ _ _ e
  have hzz : (w2.setCell ⟨bb, 7, none⟩ (.slice (some ⟨gb, 0, none⟩) (disks.length + 1) cap)).heap.size = w2.heap.size := by simp [World.setCell]
  have hg := hp.own.ge0 (k := gb) rfl
  have hgn : ∀ b, okD bb dv nv b → b < w.heap.size → b ≠ gb := fun b h1 h2 e => by
    subst e
    rcases hp.at' with q | q
    · exact h1.2.1 q
    · omega
  have hok : ∀ b, okD bb dv nv b → b < w.heap.size → okD bb (.slice (some ⟨gb, 0, none⟩) (disks.length + 1) cap) nv b := fun b h1 h2 => ⟨h1.1, fun e => hgn b h1 h2 (by injection e with e; exact e.symm), h1.2.2⟩
  have old : ∀ k, k < bb → (w2.setCell ⟨bb, 7, none⟩ (.slice (some ⟨gb, 0, none⟩) (disks.length + 1) cap)).heap[k]? = w.heap[k]? := fun k hk => (kk k (by omega)).trans (kw k (by omega) fun e => by have := h.dLt e; omega)
  refine ⟨⟨h.src.keep fun i hi => old i (by omega), hl, ?_, ?_, ?_, ?_, ?_, fun k h1 h2 => (old k h1).trans (h.old k h1 h2), (h.str.trans (grown_str hp.grown)).trans ⟨rfl, rfl, rfl⟩⟩, hbb⟩
  · exact block_setCell (i := 7) _ (hbb.trans h.blk)
  · exact (RdS.moves vStr.moves).mv ⟨by omega, fun b h1 h2 => ⟨hok b h2 h1, (kk b (by have := h2.1; omega)).trans (kw b h1 h2.2.1)⟩⟩ h.rt
  · obtain ⟨cs, ho, hf⟩ := hp.own
    exact ⟨cs, ownsRow_keep1 ho fun k e => kk k (by have := (ho.lt k e).1; omega), Flat.moves vDisk.moves ⟨by omega, fun b _ h2 => ⟨hok b h2.1 h2.2, kk b (by have := h2.1.1; omega)⟩⟩ _ _ hf⟩
  · exact ownsRow_keep1 h.ownN fun k e => (kk k (by have := (h.nLt e).1; omega)).trans (kw k (h.nLt e).2 fun e' => h.ne k e' e)
  · intro k e e'
    obtain rfl : gb = k := by injection e
    rcases hp.at' with q | q
    · exact h.ne gb q e'
    · have := (h.nLt e').2; omega
/-- A number more. -/
theorem DSt.pushN {x : Int} {u : List Value} {gb cap : Nat} (h : DSt bs bb id seq ext tags w0 tv dv nv disks next w)
    (hp : Pushed vInt 1 3 (bb + 1) (fun _ => False) w nv next x u gb cap w2) :
    DSt bs bb id seq ext tags w0 tv dv (.slice (some ⟨gb, 0, none⟩) (next.length + 1) cap) disks (next ++ [x]) (w2.setCell ⟨bb, 10, none⟩ (.slice (some ⟨gb, 0, none⟩) (next.length + 1) cap)) ∧ w2.heap[bb]? = w.heap[bb]? := by
  have hl := h.lt
  have hb := h.bbLt
  have hz := hp.grown.size
  have kw : ∀ k, k < w.heap.size → nv.ownBlock ≠ some k → w2.heap[k]? = w.heap[k]? := fun k h1 h2 => hp.grown.block k h1 fun e => h2 e.symm
  have hbb : w2.heap[bb]? = w.heap[bb]? := kw bb hb fun e => by have := h.nLt e; omega
  have kk : ∀ k, k ≠ bb → (w2.setCell ⟨bb, 10, none⟩ (.slice (some ⟨gb, 0, none⟩) (next.length + 1) cap)).heap[k]? = w2.heap[k]? := fun k e => Below.heap_setCell _ _ _ _ e
  have hzz : (w2.setCell ⟨bb, 10, none⟩ (.slice (some ⟨gb, 0, none⟩) (next.length + 1) cap)).heap.size = w2.heap.size := by simp [World.setCell]
  have hg := hp.own.ge0 (k := gb) rfl
  have hgn : ∀ b, nv.ownBlock ≠ some b → b < w.heap.size → b ≠ gb := fun b h1 h2 e => by
    subst e
    rcases hp.at' with q | q
    · exact h1 q
    · omega
  have hok : ∀ b, okD bb dv nv b → b < w.heap.size → okD bb dv (.slice (some ⟨gb, 0, none⟩) (next.length + 1) cap) b := fun b h1 h2 => ⟨h1.1, h1.2.1, fun e => hgn b h1.2.2 h2 (by injection e with e; exact e.symm)⟩
  have old : ∀ k, k < bb → (w2.setCell ⟨bb, 10, none⟩ (.slice (some ⟨gb, 0, none⟩) (next.length + 1) cap)).heap[k]? = w.heap[k]? := fun k hk => (kk k (by omega)).trans (kw k (by omega) fun e => by have := h.nLt e; omega)
  have hm : Mv (okD bb dv nv) (okD bb dv (.slice (some ⟨gb, 0, none⟩) (next.length + 1) cap)) w (w2.setCell ⟨bb, 10, none⟩ (.slice (some ⟨gb, 0, none⟩) (next.length + 1) cap)) := ⟨by omega, fun b h1 h2 => ⟨hok b h2 h1, (kk b (by have := h2.1; omega)).trans (kw b h1 h2.2.2)⟩⟩
  refine ⟨⟨h.src.keep fun i hi => old i (by omega), hl, ?_, (RdS.moves vStr.moves).mv hm h.rt, ?_, ?_, ?_, fun k h1 h2 => (old k h1).trans (h.old k h1 h2), (h.str.trans (grown_str hp.grown)).trans ⟨rfl, rfl, rfl⟩⟩, hbb⟩
  · exact block_setCell (i := 10) _ (hbb.trans h.blk)
  · have hvl := fun k e => h.dLt (k := k) e
    obtain ⟨cs, ho, hf⟩ := h.ownD
    exact ⟨cs, ownsRow_keep1 ho fun k e => (kk k (by have := (hvl k e).1; omega)).trans (kw k (hvl k e).2 (h.ne k e)), Flat.moves vDisk.moves hm _ _ hf⟩
  · have ho := hp.own.ownI
    exact ownsRow_keep1 ho fun k e => kk k (by have := World.ownsRow.lt ho k e; omega)
  · intro k e e'
    obtain rfl : gb = k := by injection e'
    rcases hp.at' with q | q
    · exact h.ne gb e q
    · have := (h.dLt e).2; omega
end

end Go.Proofs.Yteengifhndmjeaa
