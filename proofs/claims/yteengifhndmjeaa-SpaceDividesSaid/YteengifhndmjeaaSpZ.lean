/- SpaceDivides. -/
import Derived.Test.YteengifhndmjeaaSpX
import Derived.Test.YteengifhndmjeaaSpU
import Derived.Test.YteengifhndmjeaaRefN
namespace Go.Proofs.Yteengifhndmjeaa
open Go.RowKit

/-- One operation, guarded or not, that comes up alone. -/
theorem wpAnyE_stepG {P : Program} {md : Region.Mode} {ops : Array Oper} {Q : Exit → Act → World → Prop} {S : World → Prop} {N : Nat → Bool} {i : Nat} {o : Oper} {fuel : Nat} {listed : Array Bool} {a : Act} {w : World} (hi : ops[i]? = some o) (hw : Region.wanted o (yielded ops a.tmps) = true) (hr : Region.ready md ops listed = [i])
    (h : ∀ K : Act → World → Prop, Hid (∀ a' w', S w' → wpAnyE P md ops Q S N fuel (listed.setIfInBounds i true) a' w' → K a' w') → o.wp P a w K Q) : wpAnyE P md ops Q S N (fuel + 1) listed a w := by
  refine ⟨fun h0 => (by rw [hr] at h0; cases h0), fun j hj => ?_⟩
  rw [hr] at hj
  obtain rfl : j = i := by simpa using hj
  unfold wpOp
  simp only [hi, hw, if_true]
  exact .inl (h _ (Lib.hid fun a' w' h1 h2 => ⟨fun _ => h1, h2⟩))

theorem memB_inB {l : List (Int × Int)} (h : valB l = true) (n : Int) : memB l n = inB l n := by
  unfold memB inB
  unfold valB at h
  rw [List.all_eq_true] at h
  rw [Bool.eq_iff_iff, List.any_eq_true, List.any_eq_true]
  constructor
  · rintro ⟨p, hp, e⟩
    simp only [Bool.and_eq_true] at e
    exact ⟨p, hp, by simp only [Bool.and_eq_true]; exact ⟨e.1.2, e.2⟩⟩
  · rintro ⟨p, hp, e⟩
    simp only [Bool.and_eq_true] at e
    exact ⟨p, hp, by simp only [Bool.and_eq_true]; exact ⟨⟨h p hp, e.1⟩, e.2⟩⟩
theorem nfL_self {x : List (Int × Int)} {S : Int → Prop} (h : NFof x S) (hv : valB x = true) : nfL x = x := (nfL_eq (x := x) (l := x) ⟨h.1, fun _ => Iff.rfl⟩ hv).symm

theorem TotR.unique {disks : List DiskM} {vols : List VolM} : ∀ {k : Nat} {u f u' f' : Int}, TotR disks vols k u f → TotR disks vols k u' f' → u' = u ∧ f' = f
  | 0, _, _, _, _, h, h' => by
    cases h
    cases h'
    exact ⟨rfl, rfl⟩
  | k + 1, _, _, _, _, h, h' => by
    cases h with
    | snoc h1 hD hx hy =>
      cases h' with
      | snoc h1' hD' hx' hy' =>
        rw [hD] at hD'
        injection hD' with hD'
        subst hD'
        obtain ⟨e1, e2⟩ := TotR.unique h1 h1'
        rw [NFof.eq hx hx' fun _ => Iff.rfl, NFof.eq hy hy' fun _ => Iff.rfl, e1, e2]
        exact ⟨rfl, rfl⟩

set_option maxRecDepth 100000 in
set_option maxHeartbeats 8000000 in
theorem divides_reg9 (Q : Exit → Act → World → Prop) (c0 c1 c2 c4 c5 c6 c13 c14 c15 c16 c17 c18 c19 c20 c21 c22 c23 c24 c25 c26 c27 c28 c29 c30 c31 c32 c33 c34 c35 c36 c37 c38 c39 c40 c41 c42 c43 c44 c45 c46 c47 c48 c49 c50 c51 c52 c53 c54 c55 c56 c57 c58 c59 c60 c61 c62 c63 c64 c65 c66 c67 c68 c69 c70 c71 c72 c73 c74 c75 c76 c77 c78 c79 c80 c81 c82 c83 c84 c85 c86 c87 c88 c89 c90 c91 c92 c93 c94 c95 c96 c97 c98 c99 c100 c101 c102 c103 c104 c105 c106 c107 c108 c109 c110 c111 c112 c113 c114 c115 c116 c117 c118 c119 c120 c121 c122 c123 c124 c125 c126 c127 c128 c129 c130 c131 c132 c133 c134 c135 c136 c137 c138 c139 c140 c141 c142 : Value) (w : World) (Bg b off i nd dc : Nat) (ex : Int) (y1 y2 y3 : Value)
    (hin : i < nd) (hg : Bg < w.heap.size) (hg6 : w.cell? ⟨Bg, 6, none⟩ = some (.slice (some ⟨b, off, none⟩) nd dc)) (hb : b < w.heap.size) (hn : w.cell? ⟨b, off + i * 7 + 3, none⟩ = some (.int .i64 ex))
    (hsel : Calls Try.prog 36 #[y1, y2, .int .i64 2] w.drew fun e w' => ∃ p c, e = .returned (.slice p 0 c) ∧ Below w.heap.size w w')
    (hsum : ∀ w', Below w.heap.size w w' → Calls Try.prog 28 #[y3] w' fun e w'' => e = .returned (.int .i64 ex) ∧ Below w.heap.size w w'')
    (HK : Hid (∀ (w' : World) (u53 u54 u55 u56 u57 u58 u59 u60 u61 u62 u63 u64 u65 u66 u67 u68 u69 u70 u71 u72 u73 u74 u75 : Value), Below w.heap.size w w' → Q .normal ⟨#[c0, c1, c2, .pointer (some ⟨Bg, 0, none⟩), c4, c5, c6, .int .i64 (i : Int), y1, .int .i64 0, y2, .int .i64 0, y3, c13, c14, c15, c16, c17, c18, c19, c20, c21, c22, c23, c24, c25, c26, c27, c28, c29, c30, c31, c32, c33, c34, c35, c36, c37, c38, c39, c40, c41, c42, c43, c44, c45, c46, c47, c48, c49, c50, c51, c52, u53, u54, u55, u56, u57, u58, u59, u60, u61, u62, u63, u64, u65, u66, u67, u68, u69, u70, u71, u72, u73, u74, u75, .bool false, c77, c78, c79, c80, c81, c82, c83, c84, c85, c86, c87, c88, c89, c90, c91, c92, c93, c94, c95, c96, c97, c98, c99, c100, c101, c102, c103, c104, c105, c106, c107, c108, c109, c110, c111, c112, c113, c114, c115, c116, c117, c118, c119, c120, c121, c122, c123, c124, c125, c126, c127, c128, c129, c130, c131, c132, c133, c134, c135, c136, c137, c138, c139, c140, c141, c142], []⟩ w'))
    (hQ : ∀ c (a : Act) (d : Tmp) (v : Value) w, Q (.panic c) (a.put (some d) v) w → Q (.panic c) a w) :
    (lawReg Try.f11 9).wp Try.prog Q ⟨#[c0, c1, c2, .pointer (some ⟨Bg, 0, none⟩), c4, c5, c6, .int .i64 (i : Int), y1, .int .i64 0, y2, .int .i64 0, y3, c13, c14, c15, c16, c17, c18, c19, c20, c21, c22, c23, c24, c25, c26, c27, c28, c29, c30, c31, c32, c33, c34, c35, c36, c37, c38, c39, c40, c41, c42, c43, c44, c45, c46, c47, c48, c49, c50, c51, c52, c53, c54, c55, c56, c57, c58, c59, c60, c61, c62, c63, c64, c65, c66, c67, c68, c69, c70, c71, c72, c73, c74, c75, c76, c77, c78, c79, c80, c81, c82, c83, c84, c85, c86, c87, c88, c89, c90, c91, c92, c93, c94, c95, c96, c97, c98, c99, c100, c101, c102, c103, c104, c105, c106, c107, c108, c109, c110, c111, c112, c113, c114, c115, c116, c117, c118, c119, c120, c121, c122, c123, c124, c125, c126, c127, c128, c129, c130, c131, c132, c133, c134, c135, c136, c137, c138, c139, c140, c141, c142], []⟩ w := by
  conv => arg 2; whnf
  have hS : ∀ w' : World, Below w.heap.size w w' → (w'.cell? ⟨Bg, 6, none⟩ = some (.slice (some ⟨b, off, none⟩) nd dc) ∧ w'.cell? ⟨b, off + i * 7 + 3, none⟩ = some (.int .i64 ex)) := fun w' e => ⟨(e.cell (p := ⟨Bg, 6, none⟩) hg).trans hg6, (e.cell (p := ⟨b, off + i * 7 + 3, none⟩) hb).trans hn⟩
  have HS := Lib.hid hS; clear hS
  have HC := Lib.hid hsel; clear hsel
  have HM := Lib.hid hsum; clear hsum
  clear hg6 hn
  refine wp_region_E (fun w' => w'.cell? ⟨Bg, 6, none⟩ = some (.slice (some ⟨b, off, none⟩) nd dc) ∧ w'.cell? ⟨b, off + i * 7 + 3, none⟩ = some (.int .i64 ex)) 24 [] (by kernel_rfl) (HS.out _ (Below.refl _ _).drew) (fun hHeld => ?_)
  (refine wpAnyE_take (i := 0) (v := ?_) rfl rfl (by kernel_rfl) (fun _ _ _ h => hQ _ _ _ _ _ h) (Or.inl ⟨by rfl, ?_⟩) hHeld ?_; rotate_left; (intro w hSw; (try dsimp only at hSw); go_simp; (try (with_reducible rfl))); (try simp only [Act.put, List.setIfInBounds_toArray, List.set_cons_zero, List.set_cons_succ])); (refine wpAnyE_take (i := 1) (v := ?_) rfl rfl (by kernel_rfl) (fun _ _ _ h => hQ _ _ _ _ _ h) (Or.inl ⟨by rfl, ?_⟩) hHeld ?_; rotate_left; (intro w hSw; (try dsimp only at hSw); go_simp; (try (with_reducible rfl))); (try simp only [Act.put, List.setIfInBounds_toArray, List.set_cons_zero, List.set_cons_succ])); (refine wpAnyE_take (i := 2) (v := ?_) rfl rfl (by kernel_rfl) (fun _ _ _ h => hQ _ _ _ _ _ h) (Or.inl ⟨by rfl, ?_⟩) hHeld ?_; rotate_left; (intro w hSw; (try dsimp only at hSw); go_simp; (try (with_reducible rfl))); (try simp only [Act.put, List.setIfInBounds_toArray, List.set_cons_zero, List.set_cons_succ])); (refine wpAnyE_take (i := 3) (v := ?_) rfl rfl (by kernel_rfl) (fun _ _ _ h => hQ _ _ _ _ _ h) (Or.inl ⟨by rfl, ?_⟩) hHeld ?_; rotate_left; (intro w hSw; (try dsimp only at hSw); go_simp; (try (with_reducible rfl))); (try simp only [Act.put, List.setIfInBounds_toArray, List.set_cons_zero, List.set_cons_succ])); (refine wpAnyE_take (i := 4) (v := ?_) rfl rfl (by kernel_rfl) (fun _ _ _ h => hQ _ _ _ _ _ h) (Or.inl ⟨by rfl, ?_⟩) hHeld ?_; rotate_left; (intro w hSw; (try dsimp only at hSw); go_simp; (try (with_reducible rfl))); (try simp only [Act.put, List.setIfInBounds_toArray, List.set_cons_zero, List.set_cons_succ])); (refine wpAnyE_take (i := 5) (v := ?_) rfl rfl (by kernel_rfl) (fun _ _ _ h => hQ _ _ _ _ _ h) (Or.inl ⟨by rfl, ?_⟩) hHeld ?_; rotate_left; (intro w hSw; (try dsimp only at hSw); go_simp; (try (with_reducible rfl))); (try simp only [Act.put, List.setIfInBounds_toArray, List.set_cons_zero, List.set_cons_succ])); (refine wpAnyE_take (i := 6) (v := ?_) rfl rfl (by kernel_rfl) (fun _ _ _ h => hQ _ _ _ _ _ h) (Or.inl ⟨by rfl, ?_⟩) hHeld ?_; rotate_left; (intro w hSw; (try dsimp only at hSw); go_simp; (try (with_reducible rfl))); (try simp only [Act.put, List.setIfInBounds_toArray, List.set_cons_zero, List.set_cons_succ])); (refine wpAnyE_take (i := 7) (v := ?_) rfl rfl (by kernel_rfl) (fun _ _ _ h => hQ _ _ _ _ _ h) (Or.inl ⟨by rfl, ?_⟩) hHeld ?_; rotate_left; (intro w hSw; (try dsimp only at hSw); go_simp; (try (with_reducible rfl))); (try simp only [Act.put, List.setIfInBounds_toArray, List.set_cons_zero, List.set_cons_succ])); (refine wpAnyE_take (i := 8) (v := ?_) rfl rfl (by kernel_rfl) (fun _ _ _ h => hQ _ _ _ _ _ h) (Or.inl ⟨by rfl, ?_⟩) hHeld ?_; rotate_left; (intro w hSw; (try dsimp only at hSw); go_simp; (try (with_reducible rfl))); (try simp only [Act.put, List.setIfInBounds_toArray, List.set_cons_zero, List.set_cons_succ]))
  refine wpAnyE_stepG (i := 9) rfl rfl (by kernel_rfl) (fun K hK => ?_)
  go_simp
  refine HC.out.mono ?_
  rintro e w1 ⟨p, c, rfl, hb1⟩
  have HB1 := Lib.hid hb1; clear hb1
  refine hK.out _ _ (HS.out _ HB1.out) ?_
  clear hK K hHeld
  have hHeld := HS.out _ HB1.out
  (refine wpAnyE_take (i := 10) (v := ?_) rfl rfl (by kernel_rfl) (fun _ _ _ h => hQ _ _ _ _ _ h) (Or.inl ⟨by rfl, ?_⟩) hHeld ?_; rotate_left; (intro w hSw; (try dsimp only at hSw); go_simp; (try (with_reducible rfl))); (try simp only [Act.put, List.setIfInBounds_toArray, List.set_cons_zero, List.set_cons_succ])); (refine wpAnyE_take (i := 11) (v := ?_) rfl rfl (by kernel_rfl) (fun _ _ _ h => hQ _ _ _ _ _ h) (Or.inl ⟨by rfl, ?_⟩) hHeld ?_; rotate_left; (intro w hSw; (try dsimp only at hSw); go_simp; (try (with_reducible rfl))); (try simp only [Act.put, List.setIfInBounds_toArray, List.set_cons_zero, List.set_cons_succ])); (refine wpAnyE_take (i := 12) (v := ?_) rfl rfl (by kernel_rfl) (fun _ _ _ h => hQ _ _ _ _ _ h) (Or.inl ⟨by rfl, ?_⟩) hHeld ?_; rotate_left; (intro w hSw; (try dsimp only at hSw); go_simp; (try (with_reducible rfl))); (try simp only [Act.put, List.setIfInBounds_toArray, List.set_cons_zero, List.set_cons_succ])); (refine wpAnyE_take (i := 13) (v := ?_) rfl rfl (by kernel_rfl) (fun _ _ _ h => hQ _ _ _ _ _ h) (Or.inl ⟨by rfl, ?_⟩) hHeld ?_; rotate_left; (intro w hSw; (try dsimp only at hSw); go_simp; (try (with_reducible rfl))); (try simp only [Act.put, List.setIfInBounds_toArray, List.set_cons_zero, List.set_cons_succ])); (refine wpAnyE_take (i := 14) (v := ?_) rfl rfl (by kernel_rfl) (fun _ _ _ h => hQ _ _ _ _ _ h) (Or.inl ⟨by rfl, ?_⟩) hHeld ?_; rotate_left; (intro w hSw; (try dsimp only at hSw); go_simp; (try (with_reducible rfl))); (try simp only [Act.put, List.setIfInBounds_toArray, List.set_cons_zero, List.set_cons_succ])); (refine wpAnyE_take (i := 16) (v := ?_) rfl rfl (by kernel_rfl) (fun _ _ _ h => hQ _ _ _ _ _ h) (Or.inl ⟨by rfl, ?_⟩) hHeld ?_; rotate_left; (intro w hSw; (try dsimp only at hSw); go_simp; (try (with_reducible rfl))); (try simp only [Act.put, List.setIfInBounds_toArray, List.set_cons_zero, List.set_cons_succ])); (refine wpAnyE_take (i := 17) (v := ?_) rfl rfl (by kernel_rfl) (fun _ _ _ h => hQ _ _ _ _ _ h) (Or.inl ⟨by rfl, ?_⟩) hHeld ?_; rotate_left; (intro w hSw; (try dsimp only at hSw); go_simp; (try (with_reducible rfl))); (try simp only [Act.put, List.setIfInBounds_toArray, List.set_cons_zero, List.set_cons_succ])); (refine wpAnyE_take (i := 18) (v := ?_) rfl rfl (by kernel_rfl) (fun _ _ _ h => hQ _ _ _ _ _ h) (Or.inl ⟨by rfl, ?_⟩) hHeld ?_; rotate_left; (intro w hSw; (try dsimp only at hSw); go_simp; (try (with_reducible rfl))); (try simp only [Act.put, List.setIfInBounds_toArray, List.set_cons_zero, List.set_cons_succ])); (refine wpAnyE_take (i := 19) (v := ?_) rfl rfl (by kernel_rfl) (fun _ _ _ h => hQ _ _ _ _ _ h) (Or.inl ⟨by rfl, ?_⟩) hHeld ?_; rotate_left; (intro w hSw; (try dsimp only at hSw); go_simp; (try (with_reducible rfl))); (try simp only [Act.put, List.setIfInBounds_toArray, List.set_cons_zero, List.set_cons_succ])); (refine wpAnyE_take (i := 20) (v := ?_) rfl rfl (by kernel_rfl) (fun _ _ _ h => hQ _ _ _ _ _ h) (Or.inl ⟨by rfl, ?_⟩) hHeld ?_; rotate_left; (intro w hSw; (try dsimp only at hSw); go_simp; (try (with_reducible rfl))); (try simp only [Act.put, List.setIfInBounds_toArray, List.set_cons_zero, List.set_cons_succ])); (refine wpAnyE_take (i := 21) (v := ?_) rfl rfl (by kernel_rfl) (fun _ _ _ h => hQ _ _ _ _ _ h) (Or.inl ⟨by rfl, ?_⟩) hHeld ?_; rotate_left; (intro w hSw; (try dsimp only at hSw); go_simp; (try (with_reducible rfl))); (try simp only [Act.put, List.setIfInBounds_toArray, List.set_cons_zero, List.set_cons_succ]))
  refine wpAnyE_stepG (i := 15) rfl rfl (by kernel_rfl) (fun K hK => ?_)
  go_simp
  refine (HM.out _ HB1.out).mono ?_
  rintro e w2 ⟨rfl, hb2⟩
  have HB2 := Lib.hid hb2; clear hb2
  refine hK.out _ _ (HS.out _ HB2.out) ?_
  clear hK K hHeld
  have hHeld := HS.out _ HB2.out
  have hne : (ex != ex) = false := by simp
  (refine wpAnyE_take (i := 22) (v := ?_) rfl rfl (by kernel_rfl) (fun _ _ _ h => hQ _ _ _ _ _ h) (Or.inl ⟨by rfl, ?_⟩) hHeld ?_; rotate_left; (intro w hSw; (try dsimp only at hSw); go_simp; (try (with_reducible rfl))); (try simp only [Act.put, List.setIfInBounds_toArray, List.set_cons_zero, List.set_cons_succ])); (refine wpAnyE_take (i := 23) (v := ?_) rfl rfl (by kernel_rfl) (fun _ _ _ h => hQ _ _ _ _ _ h) (Or.inl ⟨by rfl, ?_⟩) hHeld ?_; rotate_left; (intro w hSw; (try dsimp only at hSw); go_simp; (try (with_reducible rfl))); (try simp only [Act.put, List.setIfInBounds_toArray, List.set_cons_zero, List.set_cons_succ]))
  refine wpAnyE_tail (by kernel_rfl) rfl ?_
  simp only [List.drop_succ_cons, List.drop_zero]
  exact HK.out w2 _ _ _ _ _ _ _ _ _ _ _ _ _ _ _ _ _ _ _ _ _ _ _ HB2.out

end Go.Proofs.Yteengifhndmjeaa
