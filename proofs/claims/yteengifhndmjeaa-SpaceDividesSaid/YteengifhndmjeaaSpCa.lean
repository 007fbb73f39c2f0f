/- areas.All; laws for what reads a range over a function. The end of a function that has run through several loops over functions. -/
import Derived.Test.YteengifhndmjeaaSpC
import Derived.RangeFuncNested
import Derived.RangeFuncBound
import Derived.RangeFuncCalls
import Derived.RangeFuncLeaves
import Derived.Shelf.Abstract
import Derived.Shelf.RegionOpen
import Derived.WalkKit
import Derived.OwnWalkIn
import Derived.TacticsInMore
import Derived.LoopNIn
import Derived.LoopIn
import Derived.Maps.AppendAt
namespace Go.Proofs.Yteengifhndmjeaa
open Go.RowKit Go.Shelf
attribute [local go_sem] Oper.semAt_some

theorem All_any (name : ByteArray) (id seq ext nx : Int) (tp dp vp hp : Option Addr) (tl tc dl dc vl vc hl hc : Nat) (w : World) :
    Calls Try.prog 61 #[.agg #[.string name, .int .u64 id, .int .i64 seq, .int .i64 ext, .int .i64 nx, .slice tp tl tc, .slice dp dl dc, .slice vp vl vc, .slice hp hl hc]] w fun e w' => e = .returned (.func (.func 77) #[] #[.pointer (some ⟨w.heap.size, 0, none⟩)]) ∧ w' = w.alloc (.cells #[.string name, .int .u64 id, .int .i64 seq, .int .i64 ext, .int .i64 nx, .slice tp tl tc, .slice dp dl dc, .slice vp vl vc, .slice hp hl hc] 52) := by
  go_enter Try.func61, Try.ntmps61
  go_wp2
  go_ret
  exact ⟨rfl, rfl⟩

theorem keepC {W W' : World} {row : Option Nat} {B k : Nat} {a : Array Value} {b : TypeId} {c : Nat × Nat} (hg : W.grownBy W' row) (hr : ∀ r, row = some r → B ≤ r ∧ ∃ o : Obj, W.heap[r]? = some o ∧ o.isCells = false) (h : W.heap[k]? = some (.cells a b c)) : W'.heap[k]? = some (.cells a b c) :=
  (hg.block k (lt_of_block h) (fun e => by
    obtain ⟨_, o, ho, hc⟩ := hr k e.symm
    rw [h] at ho
    injection ho with ho
    subst ho
    cases hc)).trans h
theorem keepR {W W' : World} {row : Option Nat} {B B' sz n : Nat} {t : TypeId} {v : Value} {xs : List Value} (hg : W.grownBy W' row) (hr : ∀ r, row = some r → B ≤ r ∧ ∃ o : Obj, W.heap[r]? = some o ∧ o.isCells = false) (h : W.ownsRow B' t sz v n xs) : W'.ownsRow B' t sz v n xs := by
  refine ownsRow_keep1 h fun k e => ?_
  rcases h.2 with ⟨rfl, _⟩ | ⟨g, cap, cur, rfl, _, hgg, _⟩
  · cases e
  · obtain rfl : g = k := by injection e
    exact (keepC hg hr hgg).trans hgg.symm

theorem stopApp {F : Fence} {n : Nat} {P : Program} {ops : Array Oper} {Q : Exit → Act → World → Prop} {o : Oper} {l : List Oper} {a : Act} {w : World} (h : Hid (wpListIn F n P ops Q (o :: l) a w)) : wpListIn F n P ops Q (o :: l) a w := h.out

end Go.Proofs.Yteengifhndmjeaa

namespace Go.Proofs.Yteengifhndmjeaa
open Go.RowKit

def coll (D : Nat) : Deferred := { target := .collected D, args := #[] }
theorem leaves_list {n : Nat} {P : Program} {fn : Func} {tmps : Array Value} {R : Ending → World → Prop} (I : World → Prop) : ∀ (ds : List Nat) (W : World), ds.Nodup → (∀ D ∈ ds, W.heap[D]? = some (.deferred (some []))) → I W → (∀ V D, D ∈ ds → V.heap[D]? = some (.deferred (some [])) → I V → I (V.putObj D (.deferred none))) →
    (∀ V, I V → LeavesInM Fence.wide n P fn tmps R [] .returning V) → LeavesInM Fence.wide n P fn tmps R (ds.map coll) .returning W
  | [], W, _, _, hI, _, h => h W hI
  | D :: ds, W, hn, hd, hI, hs, h => by
    rw [List.nodup_cons] at hn
    have hK := hd D (List.mem_cons_self ..)
    refine ⟨by simp, .inl ⟨D, _, rfl, run_takeDeferred hK, ?_⟩⟩
    refine leaves_list I ds _ hn.2 (fun E hE => ?_) (hs W D (List.mem_cons_self ..) hK hI) (fun V E hE => hs V E (List.mem_cons_of_mem _ hE)) h
    have hne : E ≠ D := fun e => hn.1 (e ▸ hE)
    have hb := hd E (List.mem_cons_of_mem _ hE)
    exact ((grownBy_putObj' W D (.deferred none)).block E (Array.getElem?_eq_some_iff.1 hb).1 (fun e => by injection e with e; exact hne e)).trans hb

end Go.Proofs.Yteengifhndmjeaa
