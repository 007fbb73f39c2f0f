/- areas.All's closure: the region that hands a piece on. -/
import Derived.Test.YteengifhndmjeaaSpA
import Derived.Test.YteengifhndmjeaaFlI
import Derived.RangeFuncKeeps
namespace Go.Proofs.Yteengifhndmjeaa
open Go.RowKit

noncomputable def allReg (n : Nat) : Code := ((Try.f77.body.bind (regOf n)).getD .skip)
set_option maxRecDepth 100000 in
set_option maxHeartbeats 40000000 in
theorem all1_reg10 {Bv Bs Ba l n' : Nat} {w : World} {name on log pool : ByteArray} {s st len kd ch dev mode dn : Int} {ap sp : Option Addr} {al ac sl sc : Nat} {R : Bool → World → Prop}
    (hv : w.cell? ⟨Bv, 0, none⟩ = some (.string name)) (ha : w.heap[Ba]? = some (.cells #[.bool false, .string on, .int .i64 s] 98 (0, 0)))
    (hs : w.heap[Bs]? = some (.cells #[.int .i64 st, .int .i64 len, .int .i64 kd, .slice ap al ac, .int .i64 ch, .slice sp sl sc, .string log, .string pool, .int .i64 dev, .int .i64 mode, .int .i64 dn] 101 (0, 0))) (h0 : 0 ≤ len) (h1 : len ≤ 1000000) (hal : al ≤ 1000) (hBv : Bv < w.heap.size)
    (hY : ∀ w', Below w.heap.size w w' → YieldAt Fence.wide n' Try.prog l #[.agg #[.string name, .string on, .int .i64 s, .int .i64 (extN kd len al)]] w' fun e w2 => ∃ go : Bool, e = .returned (.bool go) ∧ R go w2)
    (c1 c2 c3 c5 c7 c9 c10 c11 c12 c13 c14 c15 c16 c17 c18 c19 c20 c21 c22 c23 c24 c25 c26 c27 c28 c29 c30 c31 c32 c33 c34 c35 c36 c37 c38 c39 c40 c41 c42 c43 c44 c45 c46 c47 c48 c49 c50 c51 c52 c53 c54 c55 c56 c57 c58 c59 c60 c61 c62 : Value) (K : Act → World → Prop) (Q : Exit → Act → World → Prop) (hQ : ∀ c (a : Act) (d : Tmp) (v : Value) w, Q (.panic c) (a.put (some d) v) w → Q (.panic c) a w)
    (HK : Hid (∀ (go : Bool) (w' : World) (u43 u44 u45 u46 u47 u48 u49 u50 u51 u52 u53 u54 u55 u56 u57 u58 : Value), R go w' → K ⟨#[.func (.yield l) #[] #[], c1, c2, c3, .pointer (some ⟨Bv, 0, none⟩), c5, .pointer (some ⟨Bs, 0, none⟩), c7, .pointer (some ⟨Ba, 0, none⟩), c9, c10, c11, c12, c13, c14, c15, c16, c17, c18, c19, c20, c21, c22, c23, c24, c25, c26, c27, c28, c29, c30, c31, c32, c33, c34, c35, c36, c37, c38, c39, c40, c41, c42, u43, u44, u45, u46, u47, u48, u49, u50, u51, u52, u53, u54, u55, u56, u57, u58, .bool (!go), c60, c61, c62], []⟩ w')) :
    Code.wp Try.prog (allReg 10) (Exit.then K Q) ⟨#[.func (.yield l) #[] #[], c1, c2, c3, .pointer (some ⟨Bv, 0, none⟩), c5, .pointer (some ⟨Bs, 0, none⟩), c7, .pointer (some ⟨Ba, 0, none⟩), c9, c10, c11, c12, c13, c14, c15, c16, c17, c18, c19, c20, c21, c22, c23, c24, c25, c26, c27, c28, c29, c30, c31, c32, c33, c34, c35, c36, c37, c38, c39, c40, c41, c42, c43, c44, c45, c46, c47, c48, c49, c50, c51, c52, c53, c54, c55, c56, c57, c58, c59, c60, c61, c62], []⟩ w := by
  conv => arg 2; whnf
  have hBs := lt_of_block hs
  have hBa := lt_of_block ha
  have HS : Hid (∀ w' : World, w'.heap[Bv]? = w.heap[Bv]? → w'.heap[Bs]? = w.heap[Bs]? → w'.heap[Ba]? = w.heap[Ba]? → w'.cell? ⟨Bv, 0, none⟩ = some (.string name) ∧ w'.cell? ⟨Ba, 0, none⟩ = some (.bool false) ∧ w'.cell? ⟨Ba, 1, none⟩ = some (.string on) ∧ w'.cell? ⟨Ba, 2, none⟩ = some (.int .i64 s) ∧ w'.cell? ⟨Bs, 0, none⟩ = some (.int .i64 st) ∧ w'.cell? ⟨Bs, 1, none⟩ = some (.int .i64 len) ∧ w'.cell? ⟨Bs, 2, none⟩ = some (.int .i64 kd) ∧ w'.cell? ⟨Bs, 3, none⟩ = some (.slice ap al ac) ∧ w'.cell? ⟨Bs, 4, none⟩ = some (.int .i64 ch) ∧ w'.cell? ⟨Bs, 5, none⟩ = some (.slice sp sl sc) ∧ w'.cell? ⟨Bs, 6, none⟩ = some (.string log) ∧ w'.cell? ⟨Bs, 7, none⟩ = some (.string pool) ∧ w'.cell? ⟨Bs, 8, none⟩ = some (.int .i64 dev) ∧ w'.cell? ⟨Bs, 9, none⟩ = some (.int .i64 mode) ∧ w'.cell? ⟨Bs, 10, none⟩ = some (.int .i64 dn)) := Lib.hid fun w' e1 e2 e3 => ⟨(World.cell?_of_block (w := w) e1).trans hv, by simp [World.cell?, e3, ha], by simp [World.cell?, e3, ha], by simp [World.cell?, e3, ha], by simp [World.cell?, e2, hs], by simp [World.cell?, e2, hs], by simp [World.cell?, e2, hs], by simp [World.cell?, e2, hs], by simp [World.cell?, e2, hs], by simp [World.cell?, e2, hs], by simp [World.cell?, e2, hs], by simp [World.cell?, e2, hs], by simp [World.cell?, e2, hs], by simp [World.cell?, e2, hs], by simp [World.cell?, e2, hs]⟩
  have HY := Lib.hid hY
  clear hY hv ha hs
  refine wp_region_W 1 (fun w' => w'.cell? ⟨Bv, 0, none⟩ = some (.string name) ∧ w'.cell? ⟨Ba, 0, none⟩ = some (.bool false) ∧ w'.cell? ⟨Ba, 1, none⟩ = some (.string on) ∧ w'.cell? ⟨Ba, 2, none⟩ = some (.int .i64 s) ∧ w'.cell? ⟨Bs, 0, none⟩ = some (.int .i64 st) ∧ w'.cell? ⟨Bs, 1, none⟩ = some (.int .i64 len) ∧ w'.cell? ⟨Bs, 2, none⟩ = some (.int .i64 kd) ∧ w'.cell? ⟨Bs, 3, none⟩ = some (.slice ap al ac) ∧ w'.cell? ⟨Bs, 4, none⟩ = some (.int .i64 ch) ∧ w'.cell? ⟨Bs, 5, none⟩ = some (.slice sp sl sc) ∧ w'.cell? ⟨Bs, 6, none⟩ = some (.string log) ∧ w'.cell? ⟨Bs, 7, none⟩ = some (.string pool) ∧ w'.cell? ⟨Bs, 8, none⟩ = some (.int .i64 dev) ∧ w'.cell? ⟨Bs, 9, none⟩ = some (.int .i64 mode) ∧ w'.cell? ⟨Bs, 10, none⟩ = some (.int .i64 dn)) 14 [] (by kernel_rfl) (HS.out w rfl rfl rfl) (fun hHeld => ?_)
  (refine wpAnyW_take (i := 0) (v := ?_) rfl rfl (by kernel_rfl) (fun _ _ _ h => hQ _ _ _ _ _ h) (Or.inl ⟨by rfl, ?_⟩) hHeld ?_; rotate_left; (intro w hSw; (try dsimp only at hSw); go_simp; (try (with_reducible rfl))); (try simp only [Act.put, List.setIfInBounds_toArray, List.set_cons_zero, List.set_cons_succ])); (refine wpAnyW_take (i := 1) (v := ?_) rfl rfl (by kernel_rfl) (fun _ _ _ h => hQ _ _ _ _ _ h) (Or.inl ⟨by rfl, ?_⟩) hHeld ?_; rotate_left; (intro w hSw; (try dsimp only at hSw); go_simp; (try (with_reducible rfl))); (try simp only [Act.put, List.setIfInBounds_toArray, List.set_cons_zero, List.set_cons_succ])); (refine wpAnyW_take (i := 2) (v := ?_) rfl rfl (by kernel_rfl) (fun _ _ _ h => hQ _ _ _ _ _ h) (Or.inl ⟨by rfl, ?_⟩) hHeld ?_; rotate_left; (intro w hSw; (try dsimp only at hSw); go_simp; (try (with_reducible rfl))); (try simp only [Act.put, List.setIfInBounds_toArray, List.set_cons_zero, List.set_cons_succ])); (refine wpAnyW_take (i := 3) (v := ?_) rfl rfl (by kernel_rfl) (fun _ _ _ h => hQ _ _ _ _ _ h) (Or.inl ⟨by rfl, ?_⟩) hHeld ?_; rotate_left; (intro w hSw; (try dsimp only at hSw); go_simp; (try (with_reducible rfl))); (try simp only [Act.put, List.setIfInBounds_toArray, List.set_cons_zero, List.set_cons_succ])); (refine wpAnyW_take (i := 4) (v := ?_) rfl rfl (by kernel_rfl) (fun _ _ _ h => hQ _ _ _ _ _ h) (Or.inl ⟨by rfl, ?_⟩) hHeld ?_; rotate_left; (intro w hSw; (try dsimp only at hSw); go_simp; (try (with_reducible rfl))); (try simp only [Act.put, List.setIfInBounds_toArray, List.set_cons_zero, List.set_cons_succ])); (refine wpAnyW_take (i := 5) (v := ?_) rfl rfl (by kernel_rfl) (fun _ _ _ h => hQ _ _ _ _ _ h) (Or.inl ⟨by rfl, ?_⟩) hHeld ?_; rotate_left; (intro w hSw; (try dsimp only at hSw); go_simp; (try (with_reducible rfl))); (try simp only [Act.put, List.setIfInBounds_toArray, List.set_cons_zero, List.set_cons_succ])); (refine wpAnyW_take (i := 7) (v := ?_) rfl rfl (by kernel_rfl) (fun _ _ _ h => hQ _ _ _ _ _ h) (Or.inl ⟨by rfl, ?_⟩) hHeld ?_; rotate_left; (intro w hSw; (try dsimp only at hSw); go_simp; (try (with_reducible rfl))); (try simp only [Act.put, List.setIfInBounds_toArray, List.set_cons_zero, List.set_cons_succ])); (refine wpAnyW_take (i := 9) (v := ?_) rfl rfl (by kernel_rfl) (fun _ _ _ h => hQ _ _ _ _ _ h) (Or.inl ⟨by rfl, ?_⟩) hHeld ?_; rotate_left; (intro w hSw; (try dsimp only at hSw); go_simp; (try (with_reducible rfl))); (try simp only [Act.put, List.setIfInBounds_toArray, List.set_cons_zero, List.set_cons_succ])); (refine wpAnyW_take (i := 6) (v := ?_) rfl rfl (by kernel_rfl) (fun _ _ _ h => hQ _ _ _ _ _ h) (Or.inl ⟨by rfl, ?_⟩) hHeld ?_; rotate_left; (intro w hSw; (try dsimp only at hSw); go_simp; (try (with_reducible rfl))); (try simp only [Act.put, List.setIfInBounds_toArray, List.set_cons_zero, List.set_cons_succ])); (refine wpAnyW_take (i := 8) (v := ?_) rfl rfl (by kernel_rfl) (fun _ _ _ h => hQ _ _ _ _ _ h) (Or.inl ⟨by rfl, ?_⟩) hHeld ?_; rotate_left; (intro w hSw; (try dsimp only at hSw); go_simp; (try (with_reducible rfl))); (try simp only [Act.put, List.setIfInBounds_toArray, List.set_cons_zero, List.set_cons_succ])); (refine wpAnyW_take (i := 10) (v := ?_) rfl rfl (by kernel_rfl) (fun _ _ _ h => hQ _ _ _ _ _ h) (Or.inl ⟨by rfl, ?_⟩) hHeld ?_; rotate_left; (intro w hSw; (try dsimp only at hSw); go_simp; (try (with_reducible rfl))); (try simp only [Act.put, List.setIfInBounds_toArray, List.set_cons_zero, List.set_cons_succ])); (refine wpAnyW_take (i := 11) (v := ?_) rfl rfl (by kernel_rfl) (fun _ _ _ h => hQ _ _ _ _ _ h) (Or.inl ⟨by rfl, ?_⟩) hHeld ?_; rotate_left; (intro w hSw; (try dsimp only at hSw); go_simp; (try (with_reducible rfl))); (try simp only [Act.put, List.setIfInBounds_toArray, List.set_cons_zero, List.set_cons_succ]))
  refine wpAnyW_step (i := 12) rfl (by rfl) (by kernel_rfl) (fun K1 hK1 => ?_)
  refine wpIn_enterW (f := 78) (args := #[.agg #[.int .i64 st, .int .i64 len, .int .i64 kd, .slice ap al ac, .int .i64 ch, .slice sp sl sc, .string log, .string pool, .int .i64 dev, .int .i64 mode, .int .i64 dn]]) (w' := w.drew) (by go_simp) ?_
  refine (Extents_any st len kd ch dev mode dn ap sp al ac sl sc log pool w.drew h0 (by omega) (by omega)).mono ?_
  rintro e w6 ⟨rfl, hb6⟩
  dsimp only
  have hb : Below w.heap.size w w6 := ((Below.refl _ w).drew).trans hb6
  have hHeld2 := HS.out w6 (hb.block Bv hBv) (hb.block Bs hBs) (hb.block Ba hBa)
  refine hK1.out _ _ (fun _ => hHeld2) ?_
  clear hK1 K1 hHeld
  simp only [Act.put, List.setIfInBounds_toArray]
  have hHeld := hHeld2
  clear hHeld2
  (refine wpAnyW_take (i := 13) (v := ?_) rfl rfl (by kernel_rfl) (fun _ _ _ h => hQ _ _ _ _ _ h) (Or.inl ⟨by rfl, ?_⟩) hHeld ?_; rotate_left; (intro w hSw; (try dsimp only at hSw); go_simp; (try (with_reducible rfl))); (try simp only [Act.put]))
  obtain ⟨fn, tmps, assign, body, hy, hR⟩ := HY.out w6 hb
  refine wpAnyW_step (i := 14) rfl (by rfl) (by kernel_rfl) (fun K1 hK1 => ?_)
  refine wpIn_roundW (l := l) (f := fn) (tmps := tmps) (assign := assign) (body := body) (w' := w6) (by go_simp) (hR.mono ?_)
  rintro e w7 ⟨go, rfl, hRg⟩
  dsimp only
  refine hK1.out _ _ (fun q => by simp [needs] at q) ?_
  clear hK1 K1
  simp only [Act.put]
  refine wpAnyW_step (i := 15) rfl (by rfl) (by kernel_rfl) (fun K1 hK1 => ?_)
  refine wpIn_valueW (v := .bool (!go)) (w' := w7) (by go_simp) ?_
  refine hK1.out _ _ (fun q => by simp [needs] at q) ?_
  clear hK1 K1
  simp only [Act.put]
  refine wpAnyW_step (i := 16) rfl (by rfl) (by kernel_rfl) (fun K1 hK1 => ?_)
  refine wpIn_valueW (v := .bool (!go)) (w' := w7) (by go_simp) ?_
  refine hK1.out _ _ (fun q => by simp [needs] at q) ?_
  clear hK1 K1
  simp only [Act.put]
  refine wpAnyW_done (by kernel_rfl) ?_
  exact HK.out go w7 _ _ _ _ _ _ _ _ _ _ _ _ _ _ _ _ hRg

end Go.Proofs.Yteengifhndmjeaa
