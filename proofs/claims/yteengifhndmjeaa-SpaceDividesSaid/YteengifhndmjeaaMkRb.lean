/- builder.more: the region that takes the second area of a move. builder.more: the region that appends a segment. -/
import Derived.Test.YteengifhndmjeaaMkQ
namespace Go.Proofs.Yteengifhndmjeaa
open Go.RowKit

theorem wp_pushTight {α : Type} {V : Rdr α} (hV : Moves V) {sz bytes : Nat} {t e : TypeId} {i0 : TypeInfo} {z : Value} (hu : Try.prog.underlying t = some (.slice e)) (hi : Try.prog.info? e = some i0) (hz : i0.zero = some z) (hsize : i0.size = sz) (hby : i0.bytes = bytes) (hzs : z.cells.size = sz) (hbm : bytes ≤ 1000)
    {o : Oper} {dd : Tmp} {a : Act} {w : World} {K : Act → World → Prop} {Q : Exit → Act → World → Prop}
    (hdd : o.dst = some dd) (s x : Operand) (hop : o.op = Op.call { callee := Callee.builtin Builtin.append, args := #[s, x], argTypes := #[t, t] })
    (B : Nat) (ok : Nat → Prop) (v : Value) (l : List α) (p : α) (hs : a.eval s = v) (hown : TightS V sz ok w v l) (g c : Nat) (u : List Value) (hx : a.eval x = .slice (some ⟨g, 0, none⟩) 1 c)
    (hul : u.length = sz) (huv : V ok w u p) (hu1 : ∀ z ∈ u, z.oneCell' = true) (hc : ∀ (j : Nat) (y : Value), u[j]? = some y → w.cell? ⟨g, j, none⟩ = some y) (hB : B ≤ w.heap.size)
    (hK : ∀ cap w', OwnS V sz e B ok w' (.slice (some ⟨w.heap.size, 0, none⟩) (l.length + 1) cap) (l ++ [p]) → Below w.heap.size w w' → w.heap.size < w'.heap.size → K (a.put (some dd) (.slice (some ⟨w.heap.size, 0, none⟩) (l.length + 1) cap)) w') : Oper.wp Try.prog o a w K Q := by
  obtain ⟨cap, w', hr, ho, hb, hl⟩ := push_tight (ty := o.type) hV hu hi hz hsize hby hzs hbm B ok v l p hown g c u hul huv hu1 hc hB
  unfold Oper.wp
  simp [execOp, hop, resolve, invoke, builtin, hs, hx, hr, Result.andThen]
  show K (a.put o.dst _) w'
  rw [hdd]
  exact hK cap w' ho hb hl

set_option maxRecDepth 100000 in
set_option maxHeartbeats 40000000 in
theorem more_reg18 {X : Nat → Prop} {bs bb : Nat} {nv vv : Value} {g : GroupM} {next : List Int} {w0 w : World} {Lv L : Nat} {cs : Value → Array Value} {l0 segs : List SegM} {sv : Value} {ps : List (ByteArray × Int × Int)} {nx : List Int} {st n : Int} {Sb A : Nat} {on on2 : ByteArray} {s s2 : Int}
    (M : MStL (addX X L) bs bb nv vv g next w0 Lv cs l0 sv segs ps nx L #[.int .i64 st, .int .i64 n, .int .i64 8, .slice (some ⟨Sb, 0, none⟩) 1 1, .int .i64 0, .slice none 0 0, .string ⟨#[]⟩, .string ⟨#[]⟩, .int .i64 0, .int .i64 0, .int .i64 0] w) (hL1 : Lv + 1 + 1 ≤ L) (hL2 : sv.ownBlock ≠ some L) (hLA : L < A)
    (hSb : w.heap[Sb]? = some (.cells #[.bool false, .string on, .int .i64 s] 98 (0, 0))) (hok : (okB (moreY (addX X L) Lv sv) bb nv vv) Sb) (hA : w.heap[A]? = some (.cells #[.bool false, .string on2, .int .i64 s2] 98 (0, 0)))
    (hn1 : 1 ≤ n) (hn2 : n ≤ 3) (c1 c2 c3 c4 c5 c6 c7 c10 c11 c13 c14 c15 c16 c17 c18 c19 c20 c21 c22 c23 c24 c25 c26 c27 c28 c29 c30 c31 c32 c33 c34 c35 c36 c37 c38 c39 c40 c41 c42 c43 c44 c45 c46 c47 c48 c49 c50 c51 c52 c53 c54 c55 c56 c57 c58 c59 c60 c61 c62 c63 c64 c65 c66 c67 c68 c69 c70 c71 c72 c73 c74 c75 c76 c77 c78 c79 c80 c81 c82 c83 c84 c85 c86 c87 c88 c89 c90 c91 c92 c93 c94 c95 c96 c97 c98 c99 c100 c101 c102 c103 c104 c105 c106 c107 c108 c109 c110 c111 c112 c113 c114 c115 c116 c117 c118 c119 c120 c121 c122 c123 c124 : Value) (K : Act → World → Prop) (Q : Exit → Act → World → Prop) (hQ : ∀ c (a : Act) (d : Tmp) (v : Value) w, Q (.panic c) (a.put (some d) v) w → Q (.panic c) a w)
    (HK : Hid (∀ (gb cap : Nat) (dn : Int) (w' : World) (u104 u105 u106 u107 u108 u109 u110 u111 u112 u113 u114 u115 u116 u117 : Value), 0 ≤ dn → dn ≤ n → MStL (addX X L) bs bb nv vv g next w0 Lv cs l0 sv segs ps nx L #[.int .i64 st, .int .i64 n, .int .i64 8, .slice (some ⟨gb, 0, none⟩) 2 cap, .int .i64 0, .slice none 0 0, .string ⟨#[]⟩, .string ⟨#[]⟩, .int .i64 0, .int .i64 0, .int .i64 dn] w' → RdS vArea 3 (okB (moreY (addX X L) Lv sv) bb nv vv) w' [.slice (some ⟨gb, 0, none⟩) 2 cap] [⟨false, on, s⟩, ⟨false, on2, s2⟩] → K ⟨#[.pointer (some ⟨bb, 0, none⟩), c1, c2, c3, c4, c5, c6, c7, .int .i64 n, .pointer (some ⟨L, 0, none⟩), c10, c11, .pointer (some ⟨A, 0, none⟩), c13, c14, c15, c16, c17, c18, c19, c20, c21, c22, c23, c24, c25, c26, c27, c28, c29, c30, c31, c32, c33, c34, c35, c36, c37, c38, c39, c40, c41, c42, c43, c44, c45, c46, c47, c48, c49, c50, c51, c52, c53, c54, c55, c56, c57, c58, c59, c60, c61, c62, c63, c64, c65, c66, c67, c68, c69, c70, c71, c72, c73, c74, c75, c76, c77, c78, c79, c80, c81, c82, c83, c84, c85, c86, c87, c88, c89, c90, c91, c92, c93, c94, c95, c96, c97, c98, c99, c100, c101, c102, c103, u104, u105, u106, u107, u108, u109, u110, u111, u112, u113, u114, u115, u116, u117, c118, c119, c120, c121, c122, c123, c124], []⟩ w')) :
    Code.wp Try.prog (moreReg 18) (Exit.then K Q) ⟨#[.pointer (some ⟨bb, 0, none⟩), c1, c2, c3, c4, c5, c6, c7, .int .i64 n, .pointer (some ⟨L, 0, none⟩), c10, c11, .pointer (some ⟨A, 0, none⟩), c13, c14, c15, c16, c17, c18, c19, c20, c21, c22, c23, c24, c25, c26, c27, c28, c29, c30, c31, c32, c33, c34, c35, c36, c37, c38, c39, c40, c41, c42, c43, c44, c45, c46, c47, c48, c49, c50, c51, c52, c53, c54, c55, c56, c57, c58, c59, c60, c61, c62, c63, c64, c65, c66, c67, c68, c69, c70, c71, c72, c73, c74, c75, c76, c77, c78, c79, c80, c81, c82, c83, c84, c85, c86, c87, c88, c89, c90, c91, c92, c93, c94, c95, c96, c97, c98, c99, c100, c101, c102, c103, c104, c105, c106, c107, c108, c109, c110, c111, c112, c113, c114, c115, c116, c117, c118, c119, c120, c121, c122, c123, c124], []⟩ w := by
  conv => arg 2; whnf
  have hbw := M.m.post.bld.bbLt
  have hbs := M.m.post.bld.lt
  have hLx := M.m.post.bld.xlt L (.inl (.inr rfl))
  have hLb : L ≠ bs := by omega
  have hAb : A ≠ bs := by omega
  have hnb : bb ≠ bs := by omega
  have hw1 : IntKind.i64.wrap (n + 1) = n + 1 := IntWalk.i64_in _ (by omega)
  obtain ⟨i0, hi, hz0, hz1, hz2⟩ := info_parts infoArea
  have HT : Hid (TightS vArea 3 (okB (moreY (addX X L) Lv sv) bb nv vv) w (.slice (some ⟨Sb, 0, none⟩) 1 1) [⟨false, on, s⟩]) := Lib.hid ⟨Sb, [.bool false, .string on, .int .i64 s], rfl, lt_of_block hSb, hok, Flat.one rfl rfl (by simp [Value.oneCell']), (fun j y hy => by simp only [World.cell?, hSb]; simpa using hy), by simp⟩
  have HS : Hid (∀ w' : World, w'.heap[L]? = w.heap[L]? → w'.heap[A]? = w.heap[A]? → w'.heap[bb]? = w.heap[bb]? → w'.cell? ⟨L, 3, none⟩ = some (.slice (some ⟨Sb, 0, none⟩) 1 1) ∧ w'.cell? ⟨A, 0, none⟩ = some (.bool false) ∧ w'.cell? ⟨A, 1, none⟩ = some (.string on2) ∧ w'.cell? ⟨A, 2, none⟩ = some (.int .i64 s2) ∧ w'.cell? ⟨bb, 0, none⟩ = some (.pointer (some ⟨bs, 0, none⟩))) := Lib.hid fun w' e1 e2 e3 => ⟨by simp [World.cell?, e1, M.lx], by simp [World.cell?, e2, hA], by simp [World.cell?, e2, hA], by simp [World.cell?, e2, hA], (World.cell?_of_block (w := w) e3).trans M.m.post.bld.c0⟩
  have hAd : A < w.drew.heap.size := lt_of_block hA
  have hLd : L < w.drew.heap.size := hLx.2
  have hbd : bb < w.drew.heap.size := hbw
  clear hSb hA
  refine wp_region_N (fun w' => w'.cell? ⟨L, 3, none⟩ = some (.slice (some ⟨Sb, 0, none⟩) 1 1) ∧ w'.cell? ⟨A, 0, none⟩ = some (.bool false) ∧ w'.cell? ⟨A, 1, none⟩ = some (.string on2) ∧ w'.cell? ⟨A, 2, none⟩ = some (.int .i64 s2) ∧ w'.cell? ⟨bb, 0, none⟩ = some (.pointer (some ⟨bs, 0, none⟩))) (fun i => decide (i < 13) && !([0, 5, 6, 7, 9, 10] : List Nat).contains i) (by kernel_rfl) (HS.out w rfl rfl rfl) (fun hHeld => ?_)
  (refine wpAnyE_takeW (i := 0) (v := ?_) rfl rfl (by kernel_rfl) (fun _ _ _ h => hQ _ _ _ _ _ h) (Or.inl ⟨by rfl, ?_⟩) ?_; rotate_left; (intro w _; go_simp; (try (with_reducible rfl))); (try simp only [Act.put, List.setIfInBounds_toArray, List.set_cons_zero, List.set_cons_succ])); (refine wpAnyE_takeW (i := 5) (v := ?_) rfl rfl (by kernel_rfl) (fun _ _ _ h => hQ _ _ _ _ _ h) (Or.inl ⟨by rfl, ?_⟩) ?_; rotate_left; (intro w _; go_simp; (try (with_reducible rfl))); (try simp only [Act.put, List.setIfInBounds_toArray, List.set_cons_zero, List.set_cons_succ])); (refine wpAnyE_takeW (i := 6) (v := ?_) rfl rfl (by kernel_rfl) (fun _ _ _ h => hQ _ _ _ _ _ h) (Or.inl ⟨by rfl, ?_⟩) ?_; rotate_left; (intro w _; go_simp; (try (with_reducible rfl))); (try simp only [Act.put, List.setIfInBounds_toArray, List.set_cons_zero, List.set_cons_succ])); (refine wpAnyE_takeW (i := 7) (v := ?_) rfl rfl (by kernel_rfl) (fun _ _ _ h => hQ _ _ _ _ _ h) (Or.inl ⟨by rfl, ?_⟩) ?_; rotate_left; (intro w _; go_simp; (try (with_reducible rfl))); (try simp only [Act.put, List.setIfInBounds_toArray, List.set_cons_zero, List.set_cons_succ])); (refine wpAnyE_takeW (i := 9) (v := ?_) rfl rfl (by kernel_rfl) (fun _ _ _ h => hQ _ _ _ _ _ h) (Or.inl ⟨by rfl, ?_⟩) ?_; rotate_left; (intro w _; go_simp; (try (with_reducible rfl))); (try simp only [Act.put, List.setIfInBounds_toArray, List.set_cons_zero, List.set_cons_succ])); (refine wpAnyE_takeW (i := 10) (v := ?_) rfl rfl (by kernel_rfl) (fun _ _ _ h => hQ _ _ _ _ _ h) (Or.inl ⟨by rfl, ?_⟩) ?_; rotate_left; (intro w _; go_simp; (try (with_reducible rfl))); (try simp only [Act.put, List.setIfInBounds_toArray, List.set_cons_zero, List.set_cons_succ])); (refine wpAnyE_take (i := 1) (v := ?_) rfl rfl (by kernel_rfl) (fun _ _ _ h => hQ _ _ _ _ _ h) (Or.inl ⟨by rfl, ?_⟩) hHeld ?_; rotate_left; (intro w hSw; (try dsimp only at hSw); go_simp; (try (with_reducible rfl))); (try simp only [Act.put, List.setIfInBounds_toArray, List.set_cons_zero, List.set_cons_succ])); (refine wpAnyE_take (i := 2) (v := ?_) rfl rfl (by kernel_rfl) (fun _ _ _ h => hQ _ _ _ _ _ h) (Or.inl ⟨by rfl, ?_⟩) hHeld ?_; rotate_left; (intro w hSw; (try dsimp only at hSw); go_simp; (try (with_reducible rfl))); (try simp only [Act.put, List.setIfInBounds_toArray, List.set_cons_zero, List.set_cons_succ])); (refine wpAnyE_take (i := 8) (v := ?_) rfl rfl (by kernel_rfl) (fun _ _ _ h => hQ _ _ _ _ _ h) (Or.inl ⟨by rfl, ?_⟩) hHeld ?_; rotate_left; (intro w hSw; (try dsimp only at hSw); go_simp; (try (with_reducible rfl))); (try simp only [Act.put, List.setIfInBounds_toArray, List.set_cons_zero, List.set_cons_succ]))
  have M7 := M.below ((Below.refl _ _).drew)
  replace HT : Hid (TightS vArea 3 (okB (moreY (addX X L) Lv sv) bb nv vv) w.drew (.slice (some ⟨Sb, 0, none⟩) 1 1) [⟨false, on, s⟩]) := Lib.hid (HT.out.moves vArea.moves ⟨Nat.le_refl _, fun b _ ho => ⟨ho, rfl⟩⟩)
  replace HS : Hid (∀ w' : World, w'.heap[L]? = w.drew.heap[L]? → w'.heap[A]? = w.drew.heap[A]? → w'.heap[bb]? = w.drew.heap[bb]? → w'.cell? ⟨L, 3, none⟩ = some (.slice (some ⟨Sb, 0, none⟩) 1 1) ∧ w'.cell? ⟨A, 0, none⟩ = some (.bool false) ∧ w'.cell? ⟨A, 1, none⟩ = some (.string on2) ∧ w'.cell? ⟨A, 2, none⟩ = some (.int .i64 s2) ∧ w'.cell? ⟨bb, 0, none⟩ = some (.pointer (some ⟨bs, 0, none⟩))) := HS
  generalize hwd : w.drew = wd at *
  clear hwd hHeld M hbw hLx hok hw1
  have EE : Hid (∀ k, k < wd.heap.size → k ≠ bs → wd.heap[k]? = wd.heap[k]?) := Lib.hid fun _ _ _ => rfl
  have hz : wd.heap.size ≤ wd.heap.size := Nat.le_refl _
  refine wpAnyE_stepN (i := 3) rfl rfl (by kernel_rfl) (fun K1 hK1 => ?_)
  go_simp
  have MG := M7.below (below_alloc wd (.cells #[.bool false, .string on2, .int .i64 s2] 98))
  have EG : Hid (∀ k, k < wd.heap.size → k ≠ bs → (wd.alloc (.cells #[.bool false, .string on2, .int .i64 s2] 98)).heap[k]? = wd.heap[k]?) := Lib.hid fun k hk hb => (Below.heap_alloc _ _ _ (Nat.lt_of_lt_of_le hk hz)).trans (EE.out k hk hb)
  have HG := Lib.hid (heap_alloc_new wd (.cells #[.bool false, .string on2, .int .i64 s2] 98))
  have hzG : wd.heap.size ≤ (wd.alloc (.cells #[.bool false, .string on2, .int .i64 s2] 98)).heap.size := Nat.le_trans hz (by simp)
  have hG : wd.heap.size ≤ wd.heap.size := hz
  clear EE hz
  refine hK1.out _ _ (fun _ => HS.out _ (EG.out L hLd hLb) (EG.out A hAd hAb) (EG.out bb hbd hnb)) ?_
  clear hK1 K1
  generalize hW2 : wd.alloc _ = w5 at *
  clear hW2
  refine wpAnyE_stepN (i := 4) rfl rfl (by kernel_rfl) (fun K1 hK1 => ?_)
  refine wp_pushTight vArea.moves Try.underlying99 hi hz0 hz1 hz2 rfl (by decide) rfl _ _ (by rfl) (bb + 1) (okB (moreY (addX X L) Lv sv) bb nv vv) (.slice (some ⟨Sb, 0, none⟩) 1 1) [⟨false, on, s⟩] ⟨false, on2, s2⟩ (by rfl) ?_ wd.heap.size 1 [.bool false, .string on2, .int .i64 s2] (by rfl) rfl rfl ?_ ?_ ?_ ?_
  · exact HT.out.moves vArea.moves ⟨hzG, fun b hb ho => ⟨ho, EG.out b hb (by have := ho.1; omega)⟩⟩
  · simp [Value.oneCell']
  · intro j y hy
    simp only [World.cell?, HG.out]
    simpa using hy
  · have := MG.m.post.bld.bbLt; omega
  intro cap w6 ho hbel hlt
  have MP := MG.below hbel
  have EP : Hid (∀ k, k < wd.heap.size → k ≠ bs → w6.heap[k]? = wd.heap[k]?) := Lib.hid fun k hk hb => (hbel.block k (Nat.lt_of_lt_of_le hk hzG)).trans (EG.out k hk hb)
  have hzP := Nat.le_trans hzG hbel.size
  have HR : Hid (RdS vArea 3 (okB (moreY (addX X L) Lv sv) bb nv vv) w6 [.slice (some ⟨w5.heap.size, 0, none⟩) 2 cap] [⟨false, on, s⟩, ⟨false, on2, s2⟩]) := Lib.hid (ho.rd vArea.moves (by decide) (fun _ _ q => q) (fun b e => by
    obtain rfl : w5.heap.size = b := by injection e
    exact MG.m.post.bld.okNew (Nat.le_refl _)))
  refine hK1.out _ _ (fun _ => HS.out _ (EP.out L hLd hLb) (EP.out A hAd hAb) (EP.out bb hbd hnb)) ?_
  generalize w5.heap.size = gb at *
  clear hK1 K1 ho hbel hlt
  simp only [Act.put, List.setIfInBounds_toArray, List.set_cons_zero, List.set_cons_succ]
  clear EG hzG MG
  have EE := EP
  have hz := hzP
  have hHeld := HS.out _ (EP.out L hLd hLb) (EP.out A hAd hAb) (EP.out bb hbd hnb)
  (refine wpAnyE_take (i := 12) (v := ?_) rfl rfl (by kernel_rfl) (fun _ _ _ h => hQ _ _ _ _ _ h) (Or.inl ⟨by rfl, ?_⟩) hHeld ?_; rotate_left; (intro w hSw; (try dsimp only at hSw); go_simp; (try (with_reducible rfl))); (try simp only [Act.put, List.setIfInBounds_toArray, List.set_cons_zero, List.set_cons_succ]))
  clear hHeld
  refine wpAnyE_stepN (i := 11) rfl rfl (by kernel_rfl) (fun K1 hK1 => ?_)
  go_simp
  refine (N_any bs (n + 1) _ (by omega) (by omega) MP.m.post.bld.src).mono ?_
  rintro e w9 ⟨dn, rfl, hdn1, hdn2, hsN, hmN⟩
  have EN : Hid (∀ k, k < wd.heap.size → k ≠ bs → w9.heap[k]? = wd.heap[k]?) := Lib.hid fun k hk hb => (hmN.block k (Nat.lt_of_lt_of_le hk hz) hb).trans (EE.out k hk hb)
  have MN := MP.read hsN hmN
  have hzN := Nat.le_trans hz hmN.size
  have HR' : Hid (RdS vArea 3 (okB (moreY (addX X L) Lv sv) bb nv vv) w9 [.slice (some ⟨gb, 0, none⟩) 2 cap] [⟨false, on, s⟩, ⟨false, on2, s2⟩]) := Lib.hid ((RdS.moves vArea.moves).mv ⟨hmN.size, fun b hb ho => ⟨ho, hmN.block b hb (by have := ho.1; omega)⟩⟩ HR.out)
  clear HR
  have HR := HR'
  clear HR'
  refine hK1.out _ _ (fun _ => HS.out _ (EN.out L hLd hLb) (EN.out A hAd hAb) (EN.out bb hbd hnb)) ?_
  clear hK1 K1 hsN hmN
  clear EE hz
  refine wpAnyE_tailN 13 (fun t ht => by simp; omega) (by kernel_rfl) rfl ?_
  simp only [List.drop_succ_cons, List.drop_zero]
  have x3 : w9.cell? ⟨L, 3, none⟩ = some (.slice (some ⟨Sb, 0, none⟩) 1 1) := by simp [World.cell?, MN.lx]
  have x10 : w9.cell? ⟨L, 10, none⟩ = some (.int .i64 0) := by simp [World.cell?, MN.lx]
  have xf : ∀ i, w9.frozen? ⟨L, i, none⟩ = false := fun i => by simp [World.frozen?, MN.lx]
  go_wp2
  exact HK.out gb cap dn _ _ _ _ _ _ _ _ _ _ _ _ _ _ _ hdn1 (by omega) ⟨(MN.m.put hL1 hL2 3 _).put hL1 hL2 10 _, block_setCell (i := 10) _ (block_setCell (i := 3) _ MN.lx), .inr rfl⟩ ((RdS.moves vArea.moves).mv ⟨by simp [World.setCell], fun b _ ho => ⟨ho, by have hbL : b ≠ L := fun e => ho.2.2.2 (.inl (.inr e)); rw [Below.heap_setCell _ _ _ _ hbL, Below.heap_setCell _ _ _ _ hbL]⟩⟩ HR.out)

end Go.Proofs.Yteengifhndmjeaa

namespace Go.Proofs.Yteengifhndmjeaa
open Go.RowKit

set_option maxRecDepth 100000 in
set_option maxHeartbeats 40000000 in
theorem more_reg19 {X : Nat → Prop} {bs bb : Nat} {nv vv : Value} {g : GroupM} {next : List Int} {w0 w : World} {Lv L : Nat} {cs : Value → Array Value} {l0 segs : List SegM} {sv tv : Value} {ps : List (ByteArray × Int × Int)} {nx : List Int} {st n kd dn : Int} {ap : Option Addr} {al ac : Nat} {areas : List AreaM} {name : ByteArray} {id : Int} {hidden ro : Bool}
    (M : MStL (addX X L) bs bb nv vv g next w0 Lv cs l0 sv segs ps nx L #[.int .i64 st, .int .i64 n, .int .i64 kd, .slice ap al ac, .int .i64 0, .slice none 0 0, .string ⟨#[]⟩, .string ⟨#[]⟩, .int .i64 0, .int .i64 0, .int .i64 dn] w) (hcs : Hid (∀ v, cs v = #[.string name, .int .u64 id, .bool hidden, .bool ro, tv, v])) (hsl : segs.length ≤ 3)
    (hR : RdS vArea 3 (okB (moreY X Lv sv) bb nv vv) w [.slice ap al ac] areas) (hmore : MoreS l0 (segs ++ [addSeg st n kd areas dn])) (hsub : List.Sublist (((segs ++ [addSeg st n kd areas dn]).drop l0.length).flatMap segPs) ps)
    (hn1 : 1 ≤ n) (hn2 : n ≤ 3) (c0 c1 c2 c4 c5 c6 c7 c8 c10 c11 c12 c13 c14 c15 c16 c17 c18 c19 c20 c21 c22 c23 c24 c25 c26 c27 c28 c29 c30 c31 c32 c33 c34 c35 c36 c37 c38 c39 c40 c41 c42 c43 c44 c45 c46 c47 c48 c49 c50 c51 c52 c53 c54 c55 c56 c57 c58 c59 c60 c61 c62 c63 c64 c65 c66 c67 c68 c69 c70 c71 c72 c73 c74 c75 c76 c77 c78 c79 c80 c81 c82 c83 c84 c85 c86 c87 c88 c89 c90 c91 c92 c93 c94 c95 c96 c97 c98 c99 c100 c101 c102 c103 c104 c105 c106 c107 c108 c109 c110 c111 c112 c113 c114 c115 c116 c117 c118 c119 c120 c121 c122 c123 c124 : Value) (Q : Exit → Act → World → Prop)
    (HK : Hid (∀ (sv' : Value) (w' : World) (u118 u119 u120 u121 u122 u123 : Value), MSt X bs bb nv vv g next w0 Lv cs l0 sv' (segs ++ [addSeg st n kd areas dn]) ps nx w' → Q .normal ⟨#[c0, c1, c2, .pointer (some ⟨Lv, 0, none⟩), c4, c5, c6, c7, c8, .pointer (some ⟨L, 0, none⟩), c10, c11, c12, c13, c14, c15, c16, c17, c18, c19, c20, c21, c22, c23, c24, c25, c26, c27, c28, c29, c30, c31, c32, c33, c34, c35, c36, c37, c38, c39, c40, c41, c42, c43, c44, c45, c46, c47, c48, c49, c50, c51, c52, c53, c54, c55, c56, c57, c58, c59, c60, c61, c62, c63, c64, c65, c66, c67, c68, c69, c70, c71, c72, c73, c74, c75, c76, c77, c78, c79, c80, c81, c82, c83, c84, c85, c86, c87, c88, c89, c90, c91, c92, c93, c94, c95, c96, c97, c98, c99, c100, c101, c102, c103, c104, c105, c106, c107, c108, c109, c110, c111, c112, c113, c114, c115, c116, c117, u118, u119, u120, u121, u122, u123, c124], []⟩ w')) :
    Code.wp Try.prog (moreReg 19) Q ⟨#[c0, c1, c2, .pointer (some ⟨Lv, 0, none⟩), c4, c5, c6, c7, c8, .pointer (some ⟨L, 0, none⟩), c10, c11, c12, c13, c14, c15, c16, c17, c18, c19, c20, c21, c22, c23, c24, c25, c26, c27, c28, c29, c30, c31, c32, c33, c34, c35, c36, c37, c38, c39, c40, c41, c42, c43, c44, c45, c46, c47, c48, c49, c50, c51, c52, c53, c54, c55, c56, c57, c58, c59, c60, c61, c62, c63, c64, c65, c66, c67, c68, c69, c70, c71, c72, c73, c74, c75, c76, c77, c78, c79, c80, c81, c82, c83, c84, c85, c86, c87, c88, c89, c90, c91, c92, c93, c94, c95, c96, c97, c98, c99, c100, c101, c102, c103, c104, c105, c106, c107, c108, c109, c110, c111, c112, c113, c114, c115, c116, c117, c118, c119, c120, c121, c122, c123, c124], []⟩ w := by
  conv => arg 2; whnf
  obtain ⟨sp, scap, hsvf, s1, s2, s3⟩ := (M.m.st.rd vSeg.moves (by decide) (ok' := fun _ => True) (fun _ _ _ => trivial) (fun _ _ => trivial)).form
  subst hsvf
  clear s3
  have Md := M.m.drop
  have HLx := Lib.hid M.lx
  obtain ⟨i0, hi, hz0, hz1, hz2⟩ := info_parts infoSeg
  have HI := Lib.hid hi; clear hi
  have H0 := Lib.hid hz0; clear hz0
  have H1 := Lib.hid hz1; clear hz1
  have H2 := Lib.hid hz2; clear hz2
  have qL : ∀ (j : Nat) (z : Value), [.int .i64 st, .int .i64 n, .int .i64 kd, .slice ap al ac, .int .i64 0, .slice none 0 0, .string ⟨#[]⟩, .string ⟨#[]⟩, .int .i64 0, .int .i64 0, .int .i64 dn][j]? = some z → w.cell? ⟨L, j, none⟩ = some z := fun j z hz => by
    simp only [World.cell?, HLx.out]
    simpa using hz
  have y0 := qL 0 _ rfl
  have y1 := qL 1 _ rfl
  have y2 := qL 2 _ rfl
  have y3 := qL 3 _ rfl
  have y4 := qL 4 _ rfl
  have y5 := qL 5 _ rfl
  have y6 := qL 6 _ rfl
  have y7 := qL 7 _ rfl
  have y8 := qL 8 _ rfl
  have y9 := qL 9 _ rfl
  have y10 := qL 10 _ rfl
  clear qL
  have v5 : w.cell? ⟨Lv, 5, none⟩ = some (.slice sp segs.length scap) := by simp [World.cell?, Md.bv, hcs.out]
  have HRX : Hid (vSeg (okB (moreY X Lv (.slice sp segs.length scap)) bb nv vv) w [.int .i64 st, .int .i64 n, .int .i64 kd, .slice ap al ac, .int .i64 0, .slice none 0 0, .string ⟨#[]⟩, .string ⟨#[]⟩, .int .i64 0, .int .i64 0, .int .i64 dn] (addSeg st n kd areas dn)) := Lib.hid ⟨_, _, rfl, hR, RdS.nil⟩
  clear hR
  have hbel := below_alloc w (.cells #[.int .i64 st, .int .i64 n, .int .i64 kd, .slice ap al ac, .int .i64 0, .slice none 0 0, .string ⟨#[]⟩, .string ⟨#[]⟩, .int .i64 0, .int .i64 0, .int .i64 dn] 101)
  have hBW := Md.hB
  have HM := Lib.hid hmore; clear hmore
  have HSB := Lib.hid hsub; clear hsub
  clear M HLx
  go_wp2_with (at_builtin; refine wpl_pushT vSeg.moves Try.underlying54 HI.out H0.out H1.out H2.out rfl (by decide) (by decide) rfl _ _ rfl (Lv + 1 + 1) (fun b => (okB (moreY X Lv (.slice sp segs.length scap)) bb nv vv) b ∧ b < w.heap.size) (.slice sp segs.length scap) segs (addSeg st n kd areas dn) rfl ?d1 w.heap.size 1 [.int .i64 st, .int .i64 n, .int .i64 kd, .slice ap al ac, .int .i64 0, .slice none 0 0, .string ⟨#[]⟩, .string ⟨#[]⟩, .int .i64 0, .int .i64 0, .int .i64 dn] rfl rfl ?d2 ?d3 ?d4 ?d5 ?d6 ?d7 ?_)
  case d1 => exact Md.st.moves vSeg.moves ⟨hbel.size, fun b hb ho => ⟨⟨ho, hb⟩, hbel.block b hb⟩⟩ (fun k hk => hbel.block k (Md.svLt hk.1))
  case d2 => exact vSeg.moves.mv ⟨hbel.size, fun b hb ho => ⟨⟨ho, hb⟩, hbel.block b hb⟩⟩ HRX.out
  case d3 => simp [Value.oneCell']
  case d5 => omega
  case d6 =>
    have := hbel.size
    omega
  case d7 => exact fun b hb ho => (ho.2.2.2 (.inr (.inr (.inr hb)))).elim
  intro gb cap w6 hp
  obtain ⟨M7, bv6⟩ := Md.push hbel hp HM.out HSB.out (by simp only [addSeg]; omega) (fun u v => by rw [hcs.out, hcs.out]; rfl)
  have u5 : w6.cell? ⟨Lv, 5, none⟩ = some (.slice sp segs.length scap) := by simp [World.cell?, bv6, hcs.out]
  have uf : w6.frozen? ⟨Lv, 5, none⟩ = false := by simp [World.frozen?, bv6]
  clear hp bv6 y0 y1 y2 y3 y4 y5 y6 y7 y8 y9 y10 v5 hbel
  go_wp2
  exact HK.out _ _ _ _ _ _ _ _ M7

end Go.Proofs.Yteengifhndmjeaa
