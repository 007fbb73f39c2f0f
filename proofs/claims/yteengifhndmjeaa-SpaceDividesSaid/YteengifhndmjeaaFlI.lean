/- Regions that draw their order and hold a round of a loop over a function (as in Flo, at the wide fence): operations that only look are taken first, then what comes up alone, then the end in fixed order. No program in sight. -/
import Derived.Test.YteengifhndmjeaaFlo
import Derived.OrdersIn
import Derived.ControlIn
import Derived.TacticsIn
namespace Go.Proofs.Yteengifhndmjeaa
open Go.RowKit

section
variable {n : Nat} {P : Program} {ops : Array Oper} {Q : Exit → Act → World → Prop} {md : Region.Mode} {S : World → Prop} {m : Nat} {N : Nat → Bool}

/-- An operation apart from one that yields, inside the wide fence. -/
theorem wpOpW_put {j : Nat} {oi oj : Oper} {v : Value} (hj : ops[j]? = some oj) (hap : oi.apart ops oj = true) (hsi : ∀ cs b, oi.op ≠ .select cs b) (hsj : ∀ cs b, oj.op ≠ .select cs b)
    (hQ : ∀ c a w, Q (.panic c) (a.put oi.dst v) w → Q (.panic c) a w) {K : Act → World → Prop} {a : Act} {w : World} (hy : YieldsIf P ops S oi v a) (h : wpOpIn Fence.wide n P ops Q j K (a.put oi.dst v) w) :
    wpOpIn Fence.wide n P ops Q j (fun a' w' => YieldsIf P ops S oi v a' ∧ K (a'.put oi.dst v) w') a w := by
  obtain ⟨h1, h2, h3⟩ := Oper.apart_spec hap
  have keep : ∀ (a : Act), YieldsIf P ops S oi v a → ∀ u, YieldsIf P ops S oi v (a.put oj.dst u) := fun a hy u => hy.of_same (execOp_put oi hsi a oj.dst u h3) (wanted_put oi a oj.dst u h3)
  have next : ∀ u w', K ((a.put oi.dst v).put oj.dst u) w' → YieldsIf P ops S oi v (a.put oj.dst u) ∧ K ((a.put oj.dst u).put oi.dst v) w' := fun u w' q => ⟨keep a hy u, by rw [← Act.put_comm a v u h2]; exact q⟩
  unfold wpOpIn at *
  simp only [hj] at *
  rw [wanted_put oj a oi.dst v h1] at h
  by_cases hw : Region.wanted oj (yielded ops a.tmps) = true
  · rw [if_pos hw] at h ⊢
    refine ⟨fun _ _ => trivial, ?_⟩
    have h := h.2
    rw [Fence.wide_round, Oper.semAt_none, execOp_put oj hsj a oi.dst v h1] at h
    rw [Fence.wide_round, Oper.semAt_none]
    generalize (execOp a.eval oj).run P w = r at *
    match r with
    | .ok (.value u) w' => exact next u w' h
    | .ok .skip w' => exact next undef w' h
    | .ok (.defer d) w' =>
      refine ⟨keep { a with defers := d :: a.defers } (hy.of_same rfl rfl) _, ?_⟩
      rw [← Act.put_comm _ v undef h2, ← Act.put_defers]
      exact h
    | .ok (.enter f args) w' => exact ⟨h.1, CallsIn.mono h.2 fun e w'' he => by
        cases e with
        | returned u => exact next u w'' he
        | panicked c => exact hQ _ _ _ he
        | outgrown => exact he⟩
    | .ok (.row row args) w' => exact ⟨h.1, RowsIn.mono h.2 fun u w'' he => next u w'' he⟩
    | .ok (.round l f tmps assign body) w' => exact ⟨h.1, RoundIn.mono h.2 fun e w'' he => by
        cases e with
        | returned u => exact next u w'' he
        | panicked c => exact hQ _ _ _ he
        | outgrown => exact he⟩
    | .halt (.panic u) w' => exact hQ _ _ _ h
  · rw [if_neg hw] at h ⊢
    exact ⟨fun _ _ => trivial, next undef w h.2⟩

theorem yields_opW {i : Nat} {o : Oper} {v : Value} {a : Act} (hi : ops[i]? = some o) (hy : YieldsIf P ops S o v a) {K : Act → World → Prop} {w : World} (hS : S w) (h : K (a.put o.dst v) w) : wpOpIn Fence.wide n P ops Q i K a w := by
  unfold wpOpIn
  simp only [hi]
  rcases hy with ⟨hw, hv⟩ | ⟨hw, rfl⟩
  · rw [if_pos hw]
    refine ⟨fun _ _ => trivial, ?_⟩
    rw [Fence.wide_round, Oper.semAt_none, hv w hS]
    exact h
  · rw [if_neg (by rw [hw]; exact Bool.false_ne_true)]
    exact ⟨fun _ _ => trivial, h⟩

/-- Any order, and S behind each operation of which N holds. -/
def wpAnyW (n : Nat) (P : Program) (md : Region.Mode) (ops : Array Oper) (Q : Exit → Act → World → Prop) (S : World → Prop) (N : Nat → Bool) : Nat → Array Bool → Act → World → Prop
  | 0, listed, a, w => Region.ready md ops listed = [] ∧ Q .normal a w
  | fuel + 1, listed, a, w => (Region.ready md ops listed = [] → Q .normal a w) ∧ ∀ i ∈ Region.ready md ops listed, wpOpIn Fence.wide n P ops Q i (fun a' w' => (N i = true → S w') ∧ wpAnyW n P md ops Q S N fuel (listed.setIfInBounds i true) a' w') a w
theorem wpAnyIn_of_W : ∀ (fuel : Nat) (listed : Array Bool) (a : Act) (w : World), wpAnyW n P md ops Q S N fuel listed a w → wpAnyIn Fence.wide n P md ops Q fuel listed a w
  | 0, _, _, _, h => h
  | fuel + 1, _, _, _, h => ⟨h.1, fun i hi => wpOpIn_mono (fun a' w' h' => wpAnyIn_of_W fuel _ a' w' h'.2) (h.2 i hi)⟩
theorem wp_region_W {id : Nat} {a : Act} {w : World} (n : Nat) (S : World → Prop) (m : Nat) (ws : List Nat) (hm : P.follows .mixedOrders = true) (hS : S w.drew)
    (h : S w.drew → wpAnyW n P .any ops Q S (needs m ws) ops.size (Array.replicate ops.size false) a w.drew) : (Code.region id ops true).wp P Q a w :=
  (wpIn_wide (n := n)).1 (wpIn_region_any hm (wpAnyIn_of_W _ _ _ _ (h hS)))

theorem wpAnyW_first {i : Nat} {oi : Oper} {v : Value} (hi : ops[i]? = some oi) (hsel : ∀ (j : Nat) (o : Oper) cs b, ops[j]? = some o → o.op ≠ .select cs b)
    (hQ : ∀ c a w, Q (.panic c) (a.put oi.dst v) w → Q (.panic c) a w) :
    ∀ (fuel : Nat) (listed : Array Bool) (a : Act) (w : World), lateB md ops N listed i = true →
      (∀ j oj, ops[j]? = some oj → j ≠ i → listed.getD j true = false → (∀ e ∈ oj.after, Region.binds md e = true → e.on ≠ i) → oi.apart ops oj = true) →
      Clo md ops listed → i ∈ Region.ready md ops listed → YieldsIf P ops S oi v a → S w →
      wpAnyW n P md ops Q S N fuel (listed.setIfInBounds i true) (a.put oi.dst v) w → wpAnyW n P md ops Q S N (fuel + 1) listed a w := by
  intro fuel
  induction fuel with
  | zero =>
    intro listed a w _ _ _ hr hy hS H
    refine ⟨fun h => (by rw [h] at hr; cases hr), fun j hj => ?_⟩
    by_cases hji : j = i
    · subst hji; exact yields_opW hi hy hS ⟨fun _ => hS, H⟩
    · have := ready_mono hj hji
      rw [H.1] at this
      cases this
  | succ fuel ih =>
    intro listed a w hl hfree hc hr hy hS H
    have hun := (mem_ready.1 hr).1
    refine ⟨fun h => (by rw [h] at hr; cases hr), fun j hj => ?_⟩
    by_cases hji : j = i
    · subst hji; exact yields_opW hi hy hS ⟨fun _ => hS, H⟩
    · have hjm : N j = true := by
        cases hN : N j with
        | true => rfl
        | false => exact absurd hj (not_ready hc (lateB_spec hl hN (ready_lt hj) (mem_ready.1 hj).1) hun)
      have h1 := H.2 j (ready_mono hj hji)
      obtain ⟨hjun, oj, hoj, hall⟩ := mem_ready.1 hj
      have hnot : ∀ e ∈ oj.after, Region.binds md e = true → e.on ≠ i := fun e he hb heq => by
        have h1 := hall e he hb
        rw [heq, getD_both hun] at h1
        cases h1
      have h2 := wpOpW_put hoj (hfree j oj hoj hji hjun hnot) (fun cs b => hsel i oi cs b hi) (fun cs b => hsel j oj cs b hoj) hQ hy h1
      have hfree' : ∀ k ok, ops[k]? = some ok → k ≠ i → (listed.setIfInBounds j true).getD k true = false →
          (∀ e ∈ ok.after, Region.binds md e = true → e.on ≠ i) → oi.apart ops ok = true := fun k ok hk hki hun hno => by
        refine hfree k ok hk hki ?_ hno
        by_cases hjk : j = k
        · subst hjk; exact hjun
        · rw [getD_set_ne true hjk] at hun; exact hun
      refine wpOpIn_mono (fun a' w' h3 => ⟨h3.2.1, ih (listed.setIfInBounds j true) a' w' (lateB_set hl) hfree' (hc.set hj) (ready_mono hr (Ne.symm hji)) h3.1 (h3.2.1 hjm) ?_⟩) h2
      rw [Array.setIfInBounds_comm _ _ hji]
      exact h3.2.2
/-- Take number i first. -/
theorem wpAnyW_take {i : Nat} {d : Tmp} {oi : Oper} {v : Value} {fuel : Nat} {listed : Array Bool} {a : Act} {w : World} (hi : ops[i]? = some oi) (hd : oi.dst = some d)
    (hb : (Region.noSelect ops && Region.free md ops listed i && (Region.ready md ops listed).contains i && lateB md ops N listed i && cloB md ops listed) = true)
    (hQ : ∀ c a w, Q (.panic c) (a.put (some d) v) w → Q (.panic c) a w) (hy : YieldsIf P ops S oi v a) (hS : S w)
    (h : wpAnyW n P md ops Q S N fuel (listed.setIfInBounds i true) (a.put (some d) v) w) : wpAnyW n P md ops Q S N (fuel + 1) listed a w := by
  simp only [Bool.and_eq_true] at hb
  obtain ⟨⟨⟨⟨h1, h2⟩, h3⟩, h4⟩, h5⟩ := hb
  rw [← hd] at hQ h
  exact wpAnyW_first hi (Region.noSelect_spec h1) hQ fuel listed a w h4 (Region.free_spec hi h2) (cloB_spec h5) (by simpa using h3) hy hS h
/-- One operation that comes up alone, and is wanted. -/
theorem wpAnyW_step {i : Nat} {o : Oper} {fuel : Nat} {listed : Array Bool} {a : Act} {w : World} (hi : ops[i]? = some o) (hw : Region.wanted o (yielded ops a.tmps) = true) (hr : Region.ready md ops listed = [i])
    (h : ∀ K : Act → World → Prop, Hid (∀ a' w', (N i = true → S w') → wpAnyW n P md ops Q S N fuel (listed.setIfInBounds i true) a' w' → K a' w') → o.wpIn Fence.wide n P a w K Q) : wpAnyW n P md ops Q S N (fuel + 1) listed a w := by
  refine ⟨fun h0 => (by rw [hr] at h0; cases h0), fun j hj => ?_⟩
  rw [hr] at hj
  obtain rfl : j = i := by simpa using hj
  unfold wpOpIn
  simp only [hi, hw, if_true]
  exact h _ (Lib.hid fun a' w' h1 h2 => ⟨h1, h2⟩)
/-- The end. -/
theorem wpAnyW_done {listed : Array Bool} {a : Act} {w : World} (hr : Region.ready md ops listed = []) (h : Q .normal a w) : wpAnyW n P md ops Q S N 0 listed a w := ⟨hr, h⟩

/-- A call by a contract, and a round, inside the wide fence. -/
theorem wpIn_enterW {o : Oper} {a : Act} {w w' : World} {K : Act → World → Prop} {f : FuncId} {args : Array Value} (hr : (execOp a.eval o).run P w = .ok (.enter f args) w')
    (h : Calls P f args w' fun e w'' => match e with | .returned v => K (a.put o.dst v) w'' | .panicked c => Q (.panic c) a w'' | .outgrown => LetsOut Q) : o.wpIn Fence.wide n P a w K Q := by
  refine ⟨fun _ _ => trivial, ?_⟩
  rw [Fence.wide_round, Oper.semAt_none, hr]
  refine ⟨fun q => by simp [Fence.wide] at q, callsIn_wide.2 (h.mono fun e w'' q => ?_)⟩
  cases e <;> exact q
theorem wpIn_roundW {o : Oper} {a : Act} {w w' : World} {K : Act → World → Prop} {l : Nat} {f : FuncId} {tmps : Array Value} {assign body : Code} {n' : Nat} (hr : (execOp a.eval o).run P w = .ok (.round l f tmps assign body) w')
    (h : RoundIn Fence.wide n' P l f tmps assign body w' fun e w'' => match e with | .returned v => K (a.put o.dst v) w'' | .panicked c => Q (.panic c) a w'' | .outgrown => LetsOut Q) : o.wpIn Fence.wide n P a w K Q := by
  refine ⟨fun _ _ => trivial, ?_⟩
  rw [Fence.wide_round, Oper.semAt_none, hr]
  refine ⟨fun q => by simp [Fence.wide] at q, h.1, fun c cs _ => ?_⟩
  obtain ⟨e, w'', q, r⟩ := h.2 c cs (room_wide _)
  exact ⟨e, w'', by cases e <;> exact q, r⟩
/-- Any other operation. -/
theorem wpIn_valueW {o : Oper} {a : Act} {w w' : World} {K : Act → World → Prop} {v : Value} (hr : (execOp a.eval o).run P w = .ok (.value v) w') (h : K (a.put o.dst v) w') : o.wpIn Fence.wide n P a w K Q := by
  refine ⟨fun _ _ => trivial, ?_⟩
  rw [Fence.wide_round, Oper.semAt_none, hr]
  exact h
end

end Go.Proofs.Yteengifhndmjeaa
