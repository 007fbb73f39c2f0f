/- Src.Group: the region that gives a volume more segments. -/
import Derived.Test.YteengifhndmjeaaMkSb
namespace Go.Proofs.Yteengifhndmjeaa
open Go.RowKit

set_option maxRecDepth 100000 in
set_option maxHeartbeats 40000000 in
theorem group_reg19 {X : Nat → Prop} {bs bb vb vc sb M : Nat} {nv : Value} {g : GroupM} {next : List Int} {w : World} {vs : List VolM} {name on : ByteArray} {vid n s : Int} (h : Bld X w bs bb nv (.slice (some ⟨vb, 0, none⟩) (M + 1) vc) g next) (hk : BOk g next) (hM : vs.length = M) (hg : g.vols = vs ++ [linVol name vid false n on s]) (hn : 1 ≤ n ∧ n ≤ 4) (hT : w.cell? ⟨vb, M * 6 + 5, none⟩ = some (.slice (some ⟨sb, 0, none⟩) 1 1))
    (c0 c1 c2 c4 c5 c6 c7 c8 c9 c10 c11 c12 c13 c14 c15 c16 c17 c18 c19 c20 c21 c22 c23 c24 c25 c26 c27 c28 c29 c30 c31 c32 c33 c34 c35 c36 c37 c38 c39 c40 c41 c42 c43 c44 c45 c46 c47 c48 c49 c50 c51 c52 c53 c54 c55 c56 c57 c58 c59 c60 c61 c62 c63 c64 c65 c66 c67 c68 c69 c70 c71 c72 c73 c74 c75 c76 c77 c78 c79 c80 c81 c82 c83 c84 c85 c86 c87 c88 c89 c90 c91 c92 c93 c94 c95 c96 c97 c98 c99 c100 c101 c102 c103 c104 c105 c106 c107 c108 c109 c110 c111 c112 c113 c114 c115 c116 c117 c118 c119 c120 c121 c122 c123 c124 c125 c126 c127 c128 c129 c130 c131 c132 c133 c134 c135 c136 c137 c138 c139 c140 c141 c142 c143 c144 c145 c146 c147 c148 c149 c150 c151 c152 c153 c154 c155 c156 c157 c158 c159 c160 c161 c162 c163 c164 c165 c166 c167 c168 c169 c170 c171 c172 c173 c174 c175 c176 c177 c178 c179 c180 c181 : Value) (Q : Exit → Act → World → Prop) (hQ : ∀ c (a : Act) (d : Tmp) (v : Value) w, Q (.panic c) (a.put (some d) v) w → Q (.panic c) a w)
    (HK : Hid (∀ (segs : List SegM) (ps : List (ByteArray × Int × Int)) (next' : List Int) (w' : World) (u122 u123 u124 u125 u126 u127 u128 u129 u130 u131 u132 u133 u134 u135 u136 u137 u138 u139 u140 u141 u142 u143 u144 u145 u146 u147 u148 u149 u150 : Value), MoreS (linVol name vid false n on s).segs segs → segs.length ≤ 3 → Took g.disks next ps next' → List.Sublist ((segs.drop 1).flatMap segPs) ps → BPost X bs bb nv (.slice (some ⟨vb, 0, none⟩) (M + 1) vc) w w' nv (.slice (some ⟨vb, 0, none⟩) (M + 1) vc) { g with vols := vs ++ [⟨name, vid, false, false, [], segs⟩] } next' → Q .normal ⟨#[c0, c1, c2, .pointer (some ⟨bb, 0, none⟩), c4, c5, c6, c7, c8, c9, c10, c11, c12, c13, c14, c15, c16, c17, c18, c19, c20, c21, c22, c23, c24, c25, c26, c27, c28, c29, c30, c31, c32, c33, c34, c35, c36, c37, c38, c39, c40, c41, c42, c43, c44, c45, c46, c47, c48, c49, c50, c51, c52, c53, c54, c55, c56, c57, c58, c59, c60, c61, c62, c63, c64, c65, c66, c67, c68, c69, c70, c71, c72, c73, c74, c75, c76, c77, c78, c79, c80, c81, c82, c83, c84, c85, c86, c87, c88, c89, c90, c91, c92, c93, c94, c95, c96, c97, c98, c99, c100, c101, c102, c103, c104, c105, c106, c107, c108, c109, c110, c111, c112, c113, c114, c115, c116, c117, c118, c119, c120, c121, u122, u123, u124, u125, u126, u127, u128, u129, u130, u131, u132, u133, u134, u135, u136, u137, u138, u139, u140, u141, u142, u143, u144, u145, u146, u147, u148, u149, u150, c151, c152, c153, c154, c155, c156, c157, c158, c159, c160, c161, c162, c163, c164, c165, c166, c167, c168, c169, c170, c171, c172, c173, c174, c175, c176, c177, c178, c179, c180, c181], []⟩ w')) :
    Code.wp Try.prog (groupReg 19) Q ⟨#[c0, c1, c2, .pointer (some ⟨bb, 0, none⟩), c4, c5, c6, c7, c8, c9, c10, c11, c12, c13, c14, c15, c16, c17, c18, c19, c20, c21, c22, c23, c24, c25, c26, c27, c28, c29, c30, c31, c32, c33, c34, c35, c36, c37, c38, c39, c40, c41, c42, c43, c44, c45, c46, c47, c48, c49, c50, c51, c52, c53, c54, c55, c56, c57, c58, c59, c60, c61, c62, c63, c64, c65, c66, c67, c68, c69, c70, c71, c72, c73, c74, c75, c76, c77, c78, c79, c80, c81, c82, c83, c84, c85, c86, c87, c88, c89, c90, c91, c92, c93, c94, c95, c96, c97, c98, c99, c100, c101, c102, c103, c104, c105, c106, c107, c108, c109, c110, c111, c112, c113, c114, c115, c116, c117, c118, c119, c120, c121, c122, c123, c124, c125, c126, c127, c128, c129, c130, c131, c132, c133, c134, c135, c136, c137, c138, c139, c140, c141, c142, c143, c144, c145, c146, c147, c148, c149, c150, c151, c152, c153, c154, c155, c156, c157, c158, c159, c160, c161, c162, c163, c164, c165, c166, c167, c168, c169, c170, c171, c172, c173, c174, c175, c176, c177, c178, c179, c180, c181], []⟩ w := by
  conv => arg 2; whnf
  have hlt := h.lt
  have hbw := h.bbLt
  have hvl := hk.vl
  have hM1 : M ≤ 99 := by rw [hg, List.length_append, hM] at hvl; simp at hvl; omega
  clear hvl
  have hc8 := h.c8
  have hle : (vs ++ [linVol name vid false n on s]).length = M + 1 := by simp [hM]
  obtain ⟨cl, ho, hf⟩ := h.ownV
  rw [hg] at ho hf
  rw [hle] at ho
  have hcap : M + 1 ≤ vc ∧ vc ≤ 9223372036854775807 := by
    rcases ho.2 with ⟨e, _⟩ | ⟨g0, c0, cur, e, _, _, h1, h2, _⟩
    · cases e
    · injection e with _ _ e3
      subst e3
      exact ⟨h1, by unfold maxLen at h2; omega⟩
  have hcap1 := hcap.1
  have hcap2 := hcap.2
  clear hcap
  obtain ⟨c, u, rfl, hc, hu, hv⟩ := Flat.last vs cl hf
  have hcl := Flat.length _ _ hc
  rw [hM] at hcl
  obtain ⟨tv, sv, rfl, ht, hs⟩ := hv
  obtain ⟨tp, tc, ht1, ht2, ht3, _⟩ := ht
  obtain rfl : tv = .slice tp 0 tc := by injection ht1
  have hcc : ∀ (j : Nat) (z : Value), [.string name, .int .u64 vid, .bool false, .bool false, .slice tp 0 tc, sv][j]? = some z → w.cell? ⟨vb, M * 6 + j, none⟩ = some z := fun j z hz => by
    have hj : j < 6 := (List.getElem?_eq_some_iff.1 hz).1
    rw [ho.cellAt (M * 6 + j) (by omega), List.getElem?_append_right (by omega), hcl, Nat.add_sub_cancel_left]
    exact hz
  have q0 := hcc 0 _ rfl
  have q1 := hcc 1 _ rfl
  have q2 := hcc 2 _ rfl
  have q3 := hcc 3 _ rfl
  have q4 := hcc 4 _ rfl
  have q5 := hcc 5 _ rfl
  obtain rfl : sv = .slice (some ⟨sb, 0, none⟩) 1 1 := by rw [hT] at q5; injection q5 with q5; exact q5.symm
  have HT : Hid (TightS vSeg 11 (okB X bb nv (.slice (some ⟨vb, 0, none⟩) (M + 1) vc)) w (.slice (some ⟨sb, 0, none⟩) 1 1) [linSeg n on s]) := by
    obtain ⟨p, c, e, _, _, h3⟩ := hs
    obtain ⟨b, o, rfl, hb, hob, hcv⟩ := h3 (by simp [linVol])
    obtain ⟨rfl, rfl⟩ : sb = b ∧ 0 = o := by
      injection e with e
      injection e with e
      injection e with e
      injection e with e1 e2
      exact ⟨e1, e2⟩
    obtain ⟨u, hu, hv, hc⟩ := hcv 0 _ rfl
    refine Lib.hid ⟨sb, u, rfl, hb, hob, Flat.one hu hv ?_, fun j y hy => by simpa using hc j y hy, by simp⟩
    obtain ⟨a, st, rfl, ⟨_, _, ea, _⟩, ⟨_, _, es', _⟩⟩ := hv
    obtain rfl := List.singleton_inj.1 ea
    obtain rfl := List.singleton_inj.1 es'
    simp [Value.oneCell']
  clear hcc hT hs ht1 hu hc hf ho hcl
  refine wp_region_E (fun w' => w'.cell? ⟨bb, 8, none⟩ = some (.slice (some ⟨vb, 0, none⟩) (M + 1) vc)) 28 [0, 1, 2, 3, 5, 6, 7, 8, 12, 13, 14, 15, 16, 18, 19, 20, 21] (by kernel_rfl) hc8 (fun hHeld => ?_)
  have hwM : IntKind.i64.wrap (M : Int) = (M : Int) := IntWalk.i64_in _ (by omega)
  have z1 : (0 : Int) ≤ (M : Int) := by omega
  have z2 : (M : Int) < (M : Int) + 1 := by omega
  (refine wpAnyE_takeW (i := 0) (v := ?_) rfl rfl (by kernel_rfl) (fun _ _ _ h => hQ _ _ _ _ _ h) (Or.inl ⟨by rfl, ?_⟩) ?_; rotate_left; (intro w _; go_simp; (try (with_reducible rfl))); (try simp only [Act.put, List.setIfInBounds_toArray, List.set_cons_zero, List.set_cons_succ])); (refine wpAnyE_takeW (i := 1) (v := ?_) rfl rfl (by kernel_rfl) (fun _ _ _ h => hQ _ _ _ _ _ h) (Or.inl ⟨by rfl, ?_⟩) ?_; rotate_left; (intro w _; go_simp; (try (with_reducible rfl))); (try simp only [Act.put, List.setIfInBounds_toArray, List.set_cons_zero, List.set_cons_succ])); (refine wpAnyE_takeW (i := 2) (v := ?_) rfl rfl (by kernel_rfl) (fun _ _ _ h => hQ _ _ _ _ _ h) (Or.inl ⟨by rfl, ?_⟩) ?_; rotate_left; (intro w _; go_simp; (try (with_reducible rfl))); (try simp only [Act.put, List.setIfInBounds_toArray, List.set_cons_zero, List.set_cons_succ])); (refine wpAnyE_takeW (i := 3) (v := ?_) rfl rfl (by kernel_rfl) (fun _ _ _ h => hQ _ _ _ _ _ h) (Or.inl ⟨by rfl, ?_⟩) ?_; rotate_left; (intro w _; go_simp; (try (with_reducible rfl))); (try simp only [Act.put, List.setIfInBounds_toArray, List.set_cons_zero, List.set_cons_succ])); (refine wpAnyE_takeW (i := 5) (v := ?_) rfl rfl (by kernel_rfl) (fun _ _ _ h => hQ _ _ _ _ _ h) (Or.inl ⟨by rfl, ?_⟩) ?_; rotate_left; (intro w _; go_simp; (try (with_reducible rfl))); (try simp only [Act.put, List.setIfInBounds_toArray, List.set_cons_zero, List.set_cons_succ])); (refine wpAnyE_takeW (i := 6) (v := ?_) rfl rfl (by kernel_rfl) (fun _ _ _ h => hQ _ _ _ _ _ h) (Or.inl ⟨by rfl, ?_⟩) ?_; rotate_left; (intro w _; go_simp; (try (with_reducible rfl))); (try simp only [Act.put, List.setIfInBounds_toArray, List.set_cons_zero, List.set_cons_succ])); (refine wpAnyE_takeW (i := 7) (v := ?_) rfl rfl (by kernel_rfl) (fun _ _ _ h => hQ _ _ _ _ _ h) (Or.inl ⟨by rfl, ?_⟩) ?_; rotate_left; (intro w _; go_simp; (try (with_reducible rfl))); (try simp only [Act.put, List.setIfInBounds_toArray, List.set_cons_zero, List.set_cons_succ])); (refine wpAnyE_takeW (i := 8) (v := ?_) rfl rfl (by kernel_rfl) (fun _ _ _ h => hQ _ _ _ _ _ h) (Or.inl ⟨by rfl, ?_⟩) ?_; rotate_left; (intro w _; go_simp; (try (with_reducible rfl))); (try simp only [Act.put, List.setIfInBounds_toArray, List.set_cons_zero, List.set_cons_succ])); (refine wpAnyE_takeW (i := 12) (v := ?_) rfl rfl (by kernel_rfl) (fun _ _ _ h => hQ _ _ _ _ _ h) (Or.inl ⟨by rfl, ?_⟩) ?_; rotate_left; (intro w _; go_simp; (try (with_reducible rfl))); (try simp only [Act.put, List.setIfInBounds_toArray, List.set_cons_zero, List.set_cons_succ])); (refine wpAnyE_takeW (i := 13) (v := ?_) rfl rfl (by kernel_rfl) (fun _ _ _ h => hQ _ _ _ _ _ h) (Or.inl ⟨by rfl, ?_⟩) ?_; rotate_left; (intro w _; go_simp; (try (with_reducible rfl))); (try simp only [Act.put, List.setIfInBounds_toArray, List.set_cons_zero, List.set_cons_succ])); (refine wpAnyE_takeW (i := 14) (v := ?_) rfl rfl (by kernel_rfl) (fun _ _ _ h => hQ _ _ _ _ _ h) (Or.inl ⟨by rfl, ?_⟩) ?_; rotate_left; (intro w _; go_simp; (try (with_reducible rfl))); (try simp only [Act.put, List.setIfInBounds_toArray, List.set_cons_zero, List.set_cons_succ])); (refine wpAnyE_takeW (i := 15) (v := ?_) rfl rfl (by kernel_rfl) (fun _ _ _ h => hQ _ _ _ _ _ h) (Or.inl ⟨by rfl, ?_⟩) ?_; rotate_left; (intro w _; go_simp; (try (with_reducible rfl))); (try simp only [Act.put, List.setIfInBounds_toArray, List.set_cons_zero, List.set_cons_succ])); (refine wpAnyE_takeW (i := 16) (v := ?_) rfl rfl (by kernel_rfl) (fun _ _ _ h => hQ _ _ _ _ _ h) (Or.inl ⟨by rfl, ?_⟩) ?_; rotate_left; (intro w _; go_simp; (try (with_reducible rfl))); (try simp only [Act.put, List.setIfInBounds_toArray, List.set_cons_zero, List.set_cons_succ])); (refine wpAnyE_takeW (i := 18) (v := ?_) rfl rfl (by kernel_rfl) (fun _ _ _ h => hQ _ _ _ _ _ h) (Or.inl ⟨by rfl, ?_⟩) ?_; rotate_left; (intro w _; go_simp; (try (with_reducible rfl))); (try simp only [Act.put, List.setIfInBounds_toArray, List.set_cons_zero, List.set_cons_succ])); (refine wpAnyE_takeW (i := 19) (v := ?_) rfl rfl (by kernel_rfl) (fun _ _ _ h => hQ _ _ _ _ _ h) (Or.inl ⟨by rfl, ?_⟩) ?_; rotate_left; (intro w _; go_simp; (try (with_reducible rfl))); (try simp only [Act.put, List.setIfInBounds_toArray, List.set_cons_zero, List.set_cons_succ])); (refine wpAnyE_takeW (i := 20) (v := ?_) rfl rfl (by kernel_rfl) (fun _ _ _ h => hQ _ _ _ _ _ h) (Or.inl ⟨by rfl, ?_⟩) ?_; rotate_left; (intro w _; go_simp; (try (with_reducible rfl))); (try simp only [Act.put, List.setIfInBounds_toArray, List.set_cons_zero, List.set_cons_succ])); (refine wpAnyE_takeW (i := 21) (v := ?_) rfl rfl (by kernel_rfl) (fun _ _ _ h => hQ _ _ _ _ _ h) (Or.inl ⟨by rfl, ?_⟩) ?_; rotate_left; (intro w _; go_simp; (try (with_reducible rfl))); (try simp only [Act.put, List.setIfInBounds_toArray, List.set_cons_zero, List.set_cons_succ])); (refine wpAnyE_take (i := 4) (v := ?_) rfl rfl (by kernel_rfl) (fun _ _ _ h => hQ _ _ _ _ _ h) (Or.inl ⟨by rfl, ?_⟩) hHeld ?_; rotate_left; (intro w hSw; (try dsimp only at hSw); go_simp; (try (with_reducible rfl))); (try simp only [Act.put, List.setIfInBounds_toArray, List.set_cons_zero, List.set_cons_succ])); (refine wpAnyE_take (i := 9) (v := ?_) rfl rfl (by kernel_rfl) (fun _ _ _ h => hQ _ _ _ _ _ h) (Or.inl ⟨by rfl, ?_⟩) hHeld ?_; rotate_left; (intro w hSw; (try dsimp only at hSw); go_simp; (try (with_reducible rfl))); (try simp only [Act.put, List.setIfInBounds_toArray, List.set_cons_zero, List.set_cons_succ])); (refine wpAnyE_take (i := 17) (v := ?_) rfl rfl (by kernel_rfl) (fun _ _ _ h => hQ _ _ _ _ _ h) (Or.inl ⟨by rfl, ?_⟩) hHeld ?_; rotate_left; (intro w hSw; (try dsimp only at hSw); go_simp; (try (with_reducible rfl))); (try simp only [Act.put, List.setIfInBounds_toArray, List.set_cons_zero, List.set_cons_succ])); (refine wpAnyE_take (i := 22) (v := ?_) rfl rfl (by kernel_rfl) (fun _ _ _ h => hQ _ _ _ _ _ h) (Or.inl ⟨by rfl, ?_⟩) hHeld ?_; rotate_left; (intro w hSw; (try dsimp only at hSw); go_simp; (try (with_reducible rfl))); (try simp only [Act.put, List.setIfInBounds_toArray, List.set_cons_zero, List.set_cons_succ])); (refine wpAnyE_take (i := 10) (v := ?_) rfl rfl (by kernel_rfl) (fun _ _ _ h => hQ _ _ _ _ _ h) (Or.inl ⟨by rfl, ?_⟩) hHeld ?_; rotate_left; (intro w hSw; (try dsimp only at hSw); go_simp; (try (with_reducible rfl))); (try simp only [Act.put, List.setIfInBounds_toArray, List.set_cons_zero, List.set_cons_succ])); (refine wpAnyE_take (i := 11) (v := ?_) rfl rfl (by kernel_rfl) (fun _ _ _ h => hQ _ _ _ _ _ h) (Or.inl ⟨by rfl, ?_⟩) hHeld ?_; rotate_left; (intro w hSw; (try dsimp only at hSw); go_simp; (try (with_reducible rfl))); (try simp only [Act.put, List.setIfInBounds_toArray, List.set_cons_zero, List.set_cons_succ])); (refine wpAnyE_take (i := 23) (v := ?_) rfl rfl (by kernel_rfl) (fun _ _ _ h => hQ _ _ _ _ _ h) (Or.inl ⟨by rfl, ?_⟩) hHeld ?_; rotate_left; (intro w hSw; (try dsimp only at hSw); go_simp; (try (with_reducible rfl))); (try simp only [Act.put, List.setIfInBounds_toArray, List.set_cons_zero, List.set_cons_succ])); (refine wpAnyE_take (i := 24) (v := ?_) rfl rfl (by kernel_rfl) (fun _ _ _ h => hQ _ _ _ _ _ h) (Or.inl ⟨by rfl, ?_⟩) hHeld ?_; rotate_left; (intro w hSw; (try dsimp only at hSw); go_simp; (try (with_reducible rfl))); (try simp only [Act.put, List.setIfInBounds_toArray, List.set_cons_zero, List.set_cons_succ])); (refine wpAnyE_take (i := 25) (v := ?_) rfl rfl (by kernel_rfl) (fun _ _ _ h => hQ _ _ _ _ _ h) (Or.inl ⟨by rfl, ?_⟩) hHeld ?_; rotate_left; (intro w hSw; (try dsimp only at hSw); go_simp; (try (with_reducible rfl))); (try simp only [Act.put, List.setIfInBounds_toArray, List.set_cons_zero, List.set_cons_succ]))
  have h1 := h.below ((Below.refl _ _).drew)
  have hwd0 : w.drew.heap = w.heap := rfl
  have d0 : w.drew.cell? ⟨vb, M * 6, none⟩ = _ := q0
  have d1 : w.drew.cell? ⟨vb, M * 6 + 1, none⟩ = _ := q1
  have d2 : w.drew.cell? ⟨vb, M * 6 + 2, none⟩ = _ := q2
  have d3 : w.drew.cell? ⟨vb, M * 6 + 3, none⟩ = _ := q3
  have d4 : w.drew.cell? ⟨vb, M * 6 + 4, none⟩ = _ := q4
  have d5 : w.drew.cell? ⟨vb, M * 6 + 5, none⟩ = _ := q5
  refine wpAnyE_step (i := 26) rfl rfl (by kernel_rfl) (fun K1 hK1 => ?_)
  go_simp
  refine hK1.out _ _ hHeld ?_
  clear hK1 K1 q0 q1 q2 q3 q4 q5 d0 d1 d2 d3 d4 d5
  refine wpAnyE_step (i := 27) rfl rfl (by kernel_rfl) (fun K1 hK1 => ?_)
  go_simp
  have HT1 : Hid (TightS vSeg 11 (okB X bb nv (.slice (some ⟨vb, 0, none⟩) (M + 1) vc)) w.drew (.slice (some ⟨sb, 0, none⟩) 1 1) [linSeg n on s]) := Lib.hid (HT.out.moves vSeg.moves ⟨Nat.le_refl _, fun _ _ q => ⟨q, rfl⟩⟩)
  generalize hwd : w.drew = wd at *
  refine (more_any X bs bb sb 0 tc tp nv _ g next wd h1 hk name vid false false (linSeg n on s) (by simp only [linSeg]; omega) HT1.out).mono ?_
  rintro e w6 ⟨sv, segs, ps, next', rfl, hms, hsl, htk, hsub, P6, hrd⟩
  refine hK1.out _ _ P6.bld.c8 ?_
  clear hK1 K1 hHeld HT HT1
  refine wpAnyE_tail (by kernel_rfl) rfl ?_
  simp only [List.drop_succ_cons, List.drop_zero]
  have HRD := Lib.hid hrd
  obtain ⟨sp, sc, hsv, _⟩ := hrd
  obtain rfl : sv = .slice sp segs.length sc := by injection hsv
  clear hsv
  obtain ⟨cl, ho, hf⟩ := P6.bld.ownV
  rw [hg] at ho
  rw [hle] at ho
  have hll := ho.1
  have hcw : ∀ j, j < 6 → ∃ z, w6.cell? ⟨vb, M * 6 + j, none⟩ = some z := fun j hj => by
    rw [ho.cellAt (M * 6 + j) (by omega)]
    exact getSome cl (M * 6 + j) (by rw [hll]; omega)
  have hfz := ho.frozenAt
  obtain ⟨z0, y0⟩ := hcw 0 (by omega)
  obtain ⟨z1', y1⟩ := hcw 1 (by omega)
  obtain ⟨z2', y2⟩ := hcw 2 (by omega)
  obtain ⟨z3, y3⟩ := hcw 3 (by omega)
  obtain ⟨z4, y4⟩ := hcw 4 (by omega)
  obtain ⟨z5, y5⟩ := hcw 5 (by omega)
  replace y0 : w6.cell? ⟨vb, M * 6, none⟩ = some z0 := y0
  clear hcw ho hf hll
  have P0 : BPost X bs bb nv (.slice (some ⟨vb, 0, none⟩) (M + 1) vc) w wd nv (.slice (some ⟨vb, 0, none⟩) (M + 1) vc) g next := by rw [← hwd]; exact (BPost.refl h).drewN 1
  have HP := Lib.hid (P0.trans P6)
  clear P0 P6 h1
  go_wp2
  subst hM
  exact HK.out segs ps next' _ _ _ _ _ _ _ _ _ _ _ _ _ _ _ _ _ _ _ _ _ _ _ _ _ _ _ _ _ _ hms hsl htk hsub (HP.out.setLast hg ⟨_, _, rfl, ⟨tp, tc, rfl, ht2, ht3, fun q => absurd q (by simp)⟩, HRD.out⟩ (by simp [Value.oneCell']))

end Go.Proofs.Yteengifhndmjeaa
