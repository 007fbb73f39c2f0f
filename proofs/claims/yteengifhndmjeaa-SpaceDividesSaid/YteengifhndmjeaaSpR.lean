/- volumegroupref09.Each; the region of Places that appends. volumegroupref09.Places. -/
import Derived.Test.YteengifhndmjeaaSpCa
import Derived.Test.YteengifhndmjeaaMkD
import Derived.Test.YteengifhndmjeaaMkQ
import Derived.IntWalk
import Derived.Outline
namespace Go.Proofs.Yteengifhndmjeaa
open Go.RowKit

set_option maxHeartbeats 1000000 in
theorem Each_any (st len kd ch dev mode dn : Int) (ap sp : Option Addr) (al ac sl sc : Nat) (log pool : ByteArray) (w : World) (h0 : 0 ≤ len) (h1 : len ≤ 9223372036854775807) (ha : al ≤ 1000000) :
    Calls Try.prog 64 #[.agg #[.int .i64 st, .int .i64 len, .int .i64 kd, .slice ap al ac, .int .i64 ch, .slice sp sl sc, .string log, .string pool, .int .i64 dev, .int .i64 mode, .int .i64 dn]] w fun e w' => e = .returned (.int .i64 (extN kd len al)) ∧ Below w.heap.size w w' := by
  have hb := below_alloc w (.cells #[.int .i64 st, .int .i64 len, .int .i64 kd, .slice ap al ac, .int .i64 ch, .slice sp sl sc, .string log, .string pool, .int .i64 dev, .int .i64 mode, .int .i64 dn] 101)
  have HB := Lib.hid hb; clear hb
  go_enter Try.func64, Try.ntmps64
  by_cases hk : kd = 2
  · subst hk
    by_cases hz : al = 0
    · subst hz
      go_wp2
      go_ret
      exact ⟨by simp [extN], HB.out⟩
    · have hd : decide ((0 : Int) < (al : Int)) = true := by simp; omega
      have hn : ¬ (al : Int) = 0 := by omega
      have hn1 : ((al : Int) == 0) = false := by simpa using hz
      have hq0 : 0 ≤ len / (al : Int) := Int.ediv_nonneg h0 (by omega)
      have hq1 : len / (al : Int) ≤ len := Int.ediv_le_self _ h0
      have hq2 : len.tdiv (al : Int) = len / (al : Int) := Int.tdiv_eq_ediv_of_nonneg h0
      have hq3 : IntKind.i64.wrap (len / (al : Int)) = len / (al : Int) := IntWalk.i64_in _ (by omega)
      go_wp2
      go_ret
      exact ⟨by simp [extN, show 0 < al by omega], HB.out⟩
  · have hk1 : (kd == 2) = false := by simpa using hk
    go_wp2
    go_ret
    exact ⟨by simp [extN, hk], HB.out⟩

def vPlace : Rdr PieceM := fun _ _ vs x => vs = [.string x.vol, .string x.disk, .int .i64 x.start, .int .i64 x.len]
theorem vPlace.moves : Moves vPlace := ⟨fun _ h => h⟩
theorem infoPlace : (Try.prog.info? 69).map (fun i => (i.zero, i.size, i.bytes)) = some (some (.agg #[.string ⟨#[]⟩, .string ⟨#[]⟩, .int .i64 0, .int .i64 0]), 4, 48) := by kernel_rfl
/-- A slice of places that the call owns. -/
def OwnP (B : Nat) (w : World) (v : Value) (l : List PieceM) : Prop := OwnS vPlace 4 69 B (fun _ => False) w v l
theorem OwnP.nil (B : Nat) (w : World) : OwnP B w (.slice none 0 0) [] := ⟨[], World.ownsRow_nil _ _ _ 4, rfl⟩
theorem OwnP.keep {B : Nat} {w w' : World} {v : Value} {l : List PieceM} (h : OwnP B w v l) (hz : w.heap.size ≤ w'.heap.size) (hk : ∀ k, v.ownBlock = some k → w'.heap[k]? = w.heap[k]?) : OwnP B w' v l := by
  obtain ⟨cs, ho, hf⟩ := h
  exact ⟨cs, ownsRow_keep1 ho hk, Flat.moves vPlace.moves ⟨hz, fun b _ f => f.elim⟩ _ _ hf⟩
theorem OwnP.below {B : Nat} {w w' : World} {v : Value} {l : List PieceM} (h : OwnP B w v l) (hb : Below w.heap.size w w') : OwnP B w' v l := by
  refine h.keep hb.size fun k e => hb.block k ?_
  obtain ⟨cs, ho, _⟩ := h
  exact (ho.lt k e).2
theorem OwnP.notSeg {B k : Nat} {w : World} {v : Value} {l : List PieceM} {cs : Array Value} {z : Nat × Nat} (h : OwnP B w v l) (hk : w.heap[k]? = some (.cells cs 101 z)) : v.ownBlock ≠ some k := fun e => by
  obtain ⟨_, ho, _⟩ := h
  rcases ho.2 with ⟨rfl, _⟩ | ⟨g, cap, cur, rfl, _, hgg, _⟩
  · cases e
  · obtain rfl : g = k := by injection e
    rw [hk] at hgg
    injection hgg with hgg
    injection hgg with _ hgg _
    cases hgg
theorem OwnP.ge {B k : Nat} {w : World} {v : Value} {l : List PieceM} (h : OwnP B w v l) (e : v.ownBlock = some k) : B ≤ k ∧ k < w.heap.size := by
  obtain ⟨cs, ho, _⟩ := h
  exact ho.lt k e

noncomputable def placesReg (n : Nat) : Code := ((Try.f39.body.bind (regOf n)).getD .skip)

set_option maxRecDepth 100000 in
set_option maxHeartbeats 8000000 in
theorem places_reg14 (Q : Exit → Act → World → Prop) (c0 c2 c5 c8 c9 c10 c11 c12 c13 c14 c15 c16 c17 c18 c19 c20 c21 c22 c23 c24 c25 c26 c27 c28 c29 c30 c31 c32 c33 c34 c35 c36 c37 c38 c39 c40 c41 c42 c43 c44 c45 c46 c47 c48 c49 c50 c51 c52 c53 c54 c55 c56 c57 c58 c59 c60 c61 c62 c63 c64 c65 c66 c67 c68 c69 c70 c71 c72 c73 c74 c75 c76 c77 c78 c79 c80 c81 c82 c83 c84 c85 c86 c87 : Value) (w : World) (B Bg Bs b b3 off off3 k n p ac sc vc : Nat) (sp : Option Addr) (s : SegM) (a : AreaM) (name : ByteArray) (v3 : Value) (l : List PieceM)
    (hB : B ≤ w.heap.size) (hkn : k < n) (hpn : p < s.areas.length) (hal : s.areas.length ≤ 1000) (hll : l.length ≤ 100000) (hlen : 0 ≤ s.length ∧ s.length ≤ 1000000)
    (hg : Bg < w.heap.size) (hg7 : w.cell? ⟨Bg, 7, none⟩ = some (.slice (some ⟨b, off, none⟩) n vc)) (hb : b < w.heap.size) (hn0 : w.cell? ⟨b, off + k * 6, none⟩ = some (.string name))
    (hs : w.heap[Bs]? = some (.cells #[.int .i64 s.start, .int .i64 s.length, .int .i64 s.kind, .slice (some ⟨b3, off3, none⟩) s.areas.length ac, .int .i64 s.chunk, .slice sp s.stale.length sc, .string s.log, .string s.pool, .int .i64 s.device, .int .i64 s.mode, .int .i64 s.done] 101 (0, 0))) (hb3 : b3 < w.heap.size) (ha1 : w.cell? ⟨b3, off3 + p * 3 + 1, none⟩ = some (.string a.on)) (ha2 : w.cell? ⟨b3, off3 + p * 3 + 2, none⟩ = some (.int .i64 a.start))
    (hO : OwnP B w v3 l)
    (HK : Hid (∀ (v' : Value) (w' : World) (u62 u63 u64 u65 u66 u67 u68 u69 u70 u71 u72 u73 u74 u75 u76 u77 u78 u79 u80 u81 u82 u83 u84 u85 u86 : Value), OwnP B w' v' (l ++ [areaPiece name s a]) → Below B w w' → w'.heap[Bs]? = w.heap[Bs]? → Q .normal ⟨#[c0, .pointer (some ⟨Bg, 0, none⟩), c2, v', .int .i64 (k : Int), c5, .pointer (some ⟨Bs, 0, none⟩), .int .i64 (p : Int), c8, c9, c10, c11, c12, c13, c14, c15, c16, c17, c18, c19, c20, c21, c22, c23, c24, c25, c26, c27, c28, c29, c30, c31, c32, c33, c34, c35, c36, c37, c38, c39, c40, c41, c42, c43, c44, c45, c46, c47, c48, c49, c50, c51, c52, c53, c54, c55, c56, c57, c58, c59, c60, c61, u62, u63, u64, u65, u66, u67, u68, u69, u70, u71, u72, u73, u74, u75, u76, u77, u78, u79, u80, u81, u82, u83, u84, u85, u86, c87], []⟩ w'))
    (hQ : ∀ c (a : Act) (d : Tmp) (v : Value) w, Q (.panic c) (a.put (some d) v) w → Q (.panic c) a w) :
    (placesReg 14).wp Try.prog Q ⟨#[c0, .pointer (some ⟨Bg, 0, none⟩), c2, v3, .int .i64 (k : Int), c5, .pointer (some ⟨Bs, 0, none⟩), .int .i64 (p : Int), c8, c9, c10, c11, c12, c13, c14, c15, c16, c17, c18, c19, c20, c21, c22, c23, c24, c25, c26, c27, c28, c29, c30, c31, c32, c33, c34, c35, c36, c37, c38, c39, c40, c41, c42, c43, c44, c45, c46, c47, c48, c49, c50, c51, c52, c53, c54, c55, c56, c57, c58, c59, c60, c61, c62, c63, c64, c65, c66, c67, c68, c69, c70, c71, c72, c73, c74, c75, c76, c77, c78, c79, c80, c81, c82, c83, c84, c85, c86, c87], []⟩ w := by
  conv => arg 2; whnf
  have hsl := lt_of_block hs
  have sL : ∀ (j : Nat) (z : Value), [.int .i64 s.start, .int .i64 s.length, .int .i64 s.kind, .slice (some ⟨b3, off3, none⟩) s.areas.length ac, .int .i64 s.chunk, .slice sp s.stale.length sc, .string s.log, .string s.pool, .int .i64 s.device, .int .i64 s.mode, .int .i64 s.done][j]? = some z → ∀ q : ExtBy, (ext w q).cell? ⟨Bs, j, none⟩ = some z := fun j z hz => cell_ext hsl (by
    simp only [World.cell?, hs]
    simpa using hz)
  have s0 := sL 0 _ rfl
  have s1 := sL 1 _ rfl
  have s2 := sL 2 _ rfl
  have s3 := sL 3 _ rfl
  have s4 := sL 4 _ rfl
  have s5 := sL 5 _ rfl
  have s6 := sL 6 _ rfl
  have s7 := sL 7 _ rfl
  have s8 := sL 8 _ rfl
  have s9 := sL 9 _ rfl
  have s10 := sL 10 _ rfl
  have g7 := cell_ext hg hg7
  have n0 := cell_ext hb hn0
  have a1 := cell_ext hb3 ha1
  have a2 := cell_ext hb3 ha2
  have HO := Lib.hid hO; clear hO
  have HS := Lib.hid hs; clear hs
  have hlen1 := hlen.1
  have hlen2 := hlen.2
  obtain ⟨i0, hi, hz0, hz1, hz2⟩ := info_parts infoPlace
  have HI := Lib.hid hi; clear hi
  have H0 := Lib.hid hz0; clear hz0
  have H1 := Lib.hid hz1; clear hz1
  have H2 := Lib.hid hz2; clear hz2
  clear sL hg7 hn0 ha1 ha2 hlen
  (refine wp_region_mtail_ext _ 23 (by kernel_rfl) rfl rfl (by kernel_rfl) (by kernel_rfl) (fun _ _ _ _ h => hQ _ _ _ _ _ h) (by go_simp; rfl) ?_; simp only [List.take_succ_cons, List.take_zero, List.drop_succ_cons, List.drop_zero])
  repeat (go_big_quiet_step ((go_at_call 64; exact ext_of (Each_any _ _ _ _ _ _ _ _ _ _ _ _ _ _ _ _ (by omega) (by omega) (by omega)))))
  with_reducible refine wpQuiet_nil ?_
  intro wq hwq
  have hbq := ext_below hwq
  clear hwq s0 s1 s2 s3 s4 s5 s6 s7 s8 s9 s10 g7 n0 a1 a2
  have hO2 := HO.out.below hbq
  have hbA := below_alloc wq (.cells #[.string name, .string a.on, .int .i64 a.start, .int .i64 (extN s.kind s.length s.areas.length)] 69)
  have hO3 := hO2.below hbA
  have HO3 := Lib.hid hO3
  have HBA := Lib.hid hbA
  have HBQ := Lib.hid hbq
  have hBq := Nat.le_trans hB hbq.size
  clear hO2 hO3 hbA hbq
  go_wp2_with (at_builtin; refine wpl_pushS vPlace.moves Try.underlying66 HI.out H0.out H1.out H2.out rfl (by decide) (by decide) rfl _ _ rfl B (fun _ => False) v3 l (areaPiece name s a) rfl HO3.out wq.heap.size 1 [.string name, .string a.on, .int .i64 a.start, .int .i64 (extN s.kind s.length s.areas.length)] rfl rfl rfl ?d3 ?d4 ?d5 ?d6 (fun _ _ f => f) ?_)
  all_goals first | (case d3 => (simp [Value.oneCell'])) | (case d4 => (intro j y hy; exact cell_new rfl (by simpa using hy))) | (case d5 => omega) | (case d6 => omega) | (case d6 => simp only [World.size_alloc]; omega) | skip
  intro gb cap w3 hp
  have hkeep : ∀ j, j < w.heap.size → v3.ownBlock ≠ some j → w3.heap[j]? = w.heap[j]? := fun j hj hne => (hp.grown.block j (Nat.lt_of_lt_of_le hj (Nat.le_trans HBQ.out.size HBA.out.size)) (fun e => hne e.symm)).trans ((HBA.out.block j (Nat.lt_of_lt_of_le hj HBQ.out.size)).trans (HBQ.out.block j hj))
  have hbel : Below B w w3 := ((HBQ.out.mono hB).trans (HBA.out.mono hBq)).grown hp.grown (by simp only [World.size_alloc]; omega) (fun j e => (HO3.out.ge e).1)
  have hS := hkeep Bs hsl (HO.out.notSeg HS.out)
  have hOw := hp.own
  have HOW := Lib.hid hOw
  have HBEL := Lib.hid hbel
  have HSS := Lib.hid hS
  clear hp hOw hbel hS hkeep
  go_wp2
  exact HK.out _ _ _ _ _ _ _ _ _ _ _ _ _ _ _ _ _ _ _ _ _ _ _ _ _ _ _ HOW.out HBEL.out HSS.out

end Go.Proofs.Yteengifhndmjeaa

namespace Go.Proofs.Yteengifhndmjeaa
open Go.RowKit

set_option maxRecDepth 100000 in
set_option maxHeartbeats 16000000 in
theorem Places_any {ok : Nat → Prop} (gname : ByteArray) (id seq ext nx : Int) (tp dp vp hp : Option Addr) (tl tc dl dc vc hl hc : Nat) (vols : List VolM) (w : World) (hv : RdS vVol 6 ok w [.slice vp vols.length vc] vols) (hvl : vols.length ≤ 1000) (ht : TameV vols) (hpn : (pieces vols).length ≤ 100000) :
    Calls Try.prog 39 #[.agg #[.string gname, .int .u64 id, .int .i64 seq, .int .i64 ext, .int .i64 nx, .slice tp tl tc, .slice dp dl dc, .slice vp vols.length vc, .slice hp hl hc]] w fun e w' => ∃ v, e = .returned v ∧ OwnP w.heap.size w' v (pieces vols) ∧ Below w.heap.size w w' := by
  have hb1 := below_alloc w (.cells #[.string gname, .int .u64 id, .int .i64 seq, .int .i64 ext, .int .i64 nx, .slice tp tl tc, .slice dp dl dc, .slice vp vols.length vc, .slice hp hl hc] 52)
  have hg1 := heap_alloc_new w (.cells #[.string gname, .int .u64 id, .int .i64 seq, .int .i64 ext, .int .i64 nx, .slice tp tl tc, .slice dp dl dc, .slice vp vols.length vc, .slice hp hl hc] 52)
  have hz1 : (w.alloc (.cells #[.string gname, .int .u64 id, .int .i64 seq, .int .i64 ext, .int .i64 nx, .slice tp tl tc, .slice dp dl dc, .slice vp vols.length vc, .slice hp hl hc] 52)).heap.size = w.heap.size + 1 := by simp
  have HV := Lib.hid hv; clear hv
  have HT := Lib.hid ht; clear ht
  have HPN := Lib.hid hpn; clear hpn
  have HG1 := Lib.hid hg1; clear hg1
  have HW := Lib.hid hb1; clear hb1
  have HZ := Lib.hid hz1; clear hz1
  go_enter Try.func39, Try.ntmps39
  go_wp2
  generalize hWW : w.alloc (.cells #[.string gname, .int .u64 id, .int .i64 seq, .int .i64 ext, .int .i64 nx, .slice tp tl tc, .slice dp dl dc, .slice vp vols.length vc, .slice hp hl hc] 52) = W at *
  clear hWW
  have hz := HZ.out
  go_loopw [3, 4] (fun vo vi wr => ∃ k : Nat, k ≤ vols.length ∧ vi = .int .i64 (k : Int) ∧ OwnP (w.heap.size + 1) wr vo (pieces (vols.take k)) ∧ Below (w.heap.size + 1) W wr) (fun _ vi _ => vols.length - (intOf vi).toNat)
  case atStart => exact ⟨0, Nat.zero_le _, rfl, OwnP.nil _ _, Below.refl _ _⟩
  case round =>
    obtain ⟨k, hk, rfl, ho, hB⟩ := hrel
    have g7 : wr.cell? ⟨w.heap.size, 7, none⟩ = some (.slice vp vols.length vc) := (hB.cell (p := ⟨w.heap.size, 7, none⟩) (by show w.heap.size < w.heap.size + 1; omega)).trans (by simp [World.cell?, HG1.out])
    by_cases hlt : k < vols.length
    · obtain ⟨v, hD⟩ := getSome vols k hlt
      obtain ⟨b, off, u1, rfl, hob, hbw, hul, hvv, hcv⟩ := HV.out.elem hD
      obtain ⟨tv, sv, rfl, htr, hsr⟩ := hvv
      obtain ⟨gp, gc, rfl, _, _⟩ := hsr.cap
      have HG7 : Hid (W.cell? ⟨w.heap.size, 7, none⟩ = some (.slice (some ⟨b, off, none⟩) vols.length vc)) := Lib.hid (by simp [World.cell?, HG1.out])
      have HVK := Lib.hid hD; clear hD
      have HSR := Lib.hid hsr; clear hsr
      have HCV := Lib.hid hcv; clear hcv
      have HO := Lib.hid ho; clear ho
      have HB := Lib.hid hB; clear hB
      have HTV := Lib.hid (HT.out v (List.mem_of_getElem? HVK.out))
      clear htr hul
      go_wp2
      clear g7
      go_loopw [3, 5] (fun vo vi wr2 => ∃ q : Nat, q ≤ v.segs.length ∧ vi = .int .i64 (q : Int) ∧ OwnP (w.heap.size + 1) wr2 vo (pieces (vols.take k) ++ (v.segs.take q).flatMap (segPieces v.name)) ∧ Below (w.heap.size + 1) W wr2) (fun _ vi _ => v.segs.length - (intOf vi).toNat)
      case atStart => exact ⟨0, Nat.zero_le _, rfl, by simpa using HO.out, HB.out⟩
      case round =>
        obtain ⟨q, hq, rfl, ho, hB⟩ := hrel
        have hWr := hB.size
        have g7 : wr.cell? ⟨w.heap.size, 7, none⟩ = some (.slice (some ⟨b, off, none⟩) vols.length vc) := (hB.cell (p := ⟨w.heap.size, 7, none⟩) (by show w.heap.size < w.heap.size + 1; omega)).trans HG7.out
        have hbn : wr.heap[b]? = w.heap[b]? := (hB.block b (by omega)).trans (HW.out.block b hbw)
        have v5 := (World.cell?_of_block (w := w) (a := ⟨b, off + k * 6 + 5, none⟩) hbn).trans (HCV.out 5 _ rfl)
        clear hbn
        by_cases hlt2 : q < v.segs.length
        · obtain ⟨s, hsg⟩ := getSome v.segs q hlt2
          obtain ⟨b2, off2, u2, rfl, hob2, hbw2, hul2, hvs, hcs⟩ := HSR.out.elem hsg
          obtain ⟨av, stv, rfl, har, hst⟩ := hvs
          obtain ⟨ap, ac, rfl, _, _⟩ := har.cap
          obtain ⟨sp, sc, rfl, _, _⟩ := hst.cap
          have hbk : wr.heap[b2]? = w.heap[b2]? := (hB.block b2 (by omega)).trans (HW.out.block b2 hbw2)
          have z0 := (World.cell?_of_block (w := w) (a := ⟨b2, off2 + q * 11, none⟩) hbk).trans (hcs 0 _ rfl)
          have z1 := (World.cell?_of_block (w := w) (a := ⟨b2, off2 + q * 11 + 1, none⟩) hbk).trans (hcs 1 _ rfl)
          have z2 := (World.cell?_of_block (w := w) (a := ⟨b2, off2 + q * 11 + 2, none⟩) hbk).trans (hcs 2 _ rfl)
          have z3 := (World.cell?_of_block (w := w) (a := ⟨b2, off2 + q * 11 + 3, none⟩) hbk).trans (hcs 3 _ rfl)
          have z4 := (World.cell?_of_block (w := w) (a := ⟨b2, off2 + q * 11 + 4, none⟩) hbk).trans (hcs 4 _ rfl)
          have z5 := (World.cell?_of_block (w := w) (a := ⟨b2, off2 + q * 11 + 5, none⟩) hbk).trans (hcs 5 _ rfl)
          have z6 := (World.cell?_of_block (w := w) (a := ⟨b2, off2 + q * 11 + 6, none⟩) hbk).trans (hcs 6 _ rfl)
          have z7 := (World.cell?_of_block (w := w) (a := ⟨b2, off2 + q * 11 + 7, none⟩) hbk).trans (hcs 7 _ rfl)
          have z8 := (World.cell?_of_block (w := w) (a := ⟨b2, off2 + q * 11 + 8, none⟩) hbk).trans (hcs 8 _ rfl)
          have z9 := (World.cell?_of_block (w := w) (a := ⟨b2, off2 + q * 11 + 9, none⟩) hbk).trans (hcs 9 _ rfl)
          have z10 := (World.cell?_of_block (w := w) (a := ⟨b2, off2 + q * 11 + 10, none⟩) hbk).trans (hcs 10 _ rfl)
          have HSG := Lib.hid hsg; clear hsg
          have hTS := HTV.out.2 s (List.mem_of_getElem? HSG.out)
          have HSL := Lib.hid hTS.1
          have HTL := Lib.hid hTS.2.1
          have HTS := Lib.hid hTS.2.2
          have HAR := Lib.hid har; clear har
          have hb2 := below_alloc wr (.cells #[.int .i64 s.start, .int .i64 s.length, .int .i64 s.kind, .slice ap s.areas.length ac, .int .i64 s.chunk, .slice sp s.stale.length sc, .string s.log, .string s.pool, .int .i64 s.device, .int .i64 s.mode, .int .i64 s.done] 101)
          have HBs := Lib.hid (heap_alloc_new wr (.cells #[.int .i64 s.start, .int .i64 s.length, .int .i64 s.kind, .slice ap s.areas.length ac, .int .i64 s.chunk, .slice sp s.stale.length sc, .string s.log, .string s.pool, .int .i64 s.device, .int .i64 s.mode, .int .i64 s.done] 101))
          have HO2 := Lib.hid (ho.below hb2)
          have HB2 := Lib.hid (hB.trans (hb2.mono (by omega)))
          have k2 : (wr.alloc (.cells #[.int .i64 s.start, .int .i64 s.length, .int .i64 s.kind, .slice ap s.areas.length ac, .int .i64 s.chunk, .slice sp s.stale.length sc, .string s.log, .string s.pool, .int .i64 s.device, .int .i64 s.mode, .int .i64 s.done] 101)).cell? ⟨wr.heap.size, 2, none⟩ = some (.int .i64 s.kind) := cell_new rfl rfl
          have k3 : (wr.alloc (.cells #[.int .i64 s.start, .int .i64 s.length, .int .i64 s.kind, .slice ap s.areas.length ac, .int .i64 s.chunk, .slice sp s.stale.length sc, .string s.log, .string s.pool, .int .i64 s.device, .int .i64 s.mode, .int .i64 s.done] 101)).cell? ⟨wr.heap.size, 3, none⟩ = some (.slice ap s.areas.length ac) := cell_new rfl rfl
          clear ho hB hb2 hst hcs hbk hul2 hTS
          by_cases hod : onDisk s
          · have hkk : s.kind = 1 ∨ s.kind = 2 ∨ s.kind = 8 := hod
            have HOD := Lib.hid hod; clear hod
            rcases hkk with hkd | hkd | hkd
            · have nb1 : (s.kind != 1) = false := by simp [hkd]
              clear hkd
              go_wp2
              clear k2 k3
              generalize hBse : wr.heap.size = Bs at *
              clear hBse
              go_loopw [3, 7] (fun vo m wr3 => ∃ p : Nat, p ≤ s.areas.length ∧ m = .int .i64 (p : Int) ∧ OwnP (w.heap.size + 1) wr3 vo ((pieces (vols.take k) ++ (v.segs.take q).flatMap (segPieces v.name)) ++ (s.areas.take p).map (areaPiece v.name s)) ∧ Below (w.heap.size + 1) W wr3 ∧ wr3.heap[Bs]? = some (.cells #[.int .i64 s.start, .int .i64 s.length, .int .i64 s.kind, .slice ap s.areas.length ac, .int .i64 s.chunk, .slice sp s.stale.length sc, .string s.log, .string s.pool, .int .i64 s.device, .int .i64 s.mode, .int .i64 s.done] 101 (0, 0))) (fun _ m _ => s.areas.length - (intOf m).toNat)
              case atStart => exact ⟨0, Nat.zero_le _, rfl, by simpa using HO2.out, HB2.out, HBs.out⟩
              case round =>
                obtain ⟨p, hp, rfl, ho3, hB3, hbs3⟩ := hrel
                have hW3 := hB3.size
                have g7 : wr.cell? ⟨w.heap.size, 7, none⟩ = some (.slice (some ⟨b, off, none⟩) vols.length vc) := (hB3.cell (p := ⟨w.heap.size, 7, none⟩) (by show w.heap.size < w.heap.size + 1; omega)).trans HG7.out
                have hbs3z := lt_of_block hbs3
                have z3 : wr.cell? ⟨Bs, 3, none⟩ = some (.slice ap s.areas.length ac) := by simp [World.cell?, hbs3]
                by_cases hlt3 : p < s.areas.length
                · obtain ⟨a, ha⟩ := getSome s.areas p hlt3
                  have hav := HTS.out HOD.out a (List.mem_of_getElem? ha)
                  obtain ⟨b3, off3, u3, rfl, hob3, hbw3, hul3, hva, hca⟩ := HAR.out.elem ha
                  obtain rfl : u3 = [.bool a.vol, .string a.on, .int .i64 a.start] := hva
                  rw [hav] at hca
                  have hbk : wr.heap[b3]? = w.heap[b3]? := (hB3.block b3 (by omega)).trans (HW.out.block b3 hbw3)
                  have q0 := (World.cell?_of_block (w := w) (a := ⟨b3, off3 + p * 3, none⟩) hbk).trans (hca 0 _ rfl)
                  have q1 := (World.cell?_of_block (w := w) (a := ⟨b3, off3 + p * 3 + 1, none⟩) hbk).trans (hca 1 _ rfl)
                  have q2 := (World.cell?_of_block (w := w) (a := ⟨b3, off3 + p * 3 + 2, none⟩) hbk).trans (hca 2 _ rfl)
                  have hbn : wr.heap[b]? = w.heap[b]? := (hB3.block b (by omega)).trans (HW.out.block b hbw)
                  have n0 := (World.cell?_of_block (w := w) (a := ⟨b, off + k * 6, none⟩) hbn).trans (HCV.out 0 _ rfl)
                  have HA := Lib.hid ha; clear ha
                  have HO3 := Lib.hid ho3; clear ho3
                  have HB3 := Lib.hid hB3; clear hB3
                  have HS3 := Lib.hid hbs3; clear hbs3
                  have HLL : Hid (((pieces (vols.take k) ++ (v.segs.take q).flatMap (segPieces v.name)) ++ (s.areas.take p).map (areaPiece v.name s)).length ≤ 100000) := Lib.hid (by
                    obtain ⟨rest, hrest⟩ := pieces_at HVK.out HSG.out HA.out HOD.out
                    have e := congrArg List.length hrest
                    have hpn' := HPN.out
                    rw [e] at hpn'
                    simp only [List.length_append, pieces] at hpn' ⊢
                    omega)
                  clear hca hbk hul3 hav hbn
                  go_upto_region 14 with (fail)
                  clear q0
                  refine places_reg14 _ _ _ _ _ _ _ _ _ _ _ _ _ _ _ _ _ _ _ _ _ _ _ _ _ _ _ _ _ _ _ _ _ _ _ _ _ _ _ _ _ _ _ _ _ _ _ _ _ _ _ _ _ _ _ _ _ _ _ _ _ _ _ _ _ _ _ _ _ _ _ _ _ _ _ _ _ _ _ _ _ _ _ _ wr (w.heap.size + 1) w.heap.size Bs b b3 off off3 k vols.length p ac sc vc sp s a v.name _ _ (by omega) hlt hlt3 HTL.out HLL.out HSL.out (by omega) g7 (by omega) n0 HS3.out (by omega) q1 q2 HO3.out (Lib.hid ?_) ?hQ
                  case hQ => exact fun _ _ _ _ _ h => h
                  clear g7 n0 q1 q2 z3
                  intro v' w' u62 u63 u64 u65 u66 u67 u68 u69 u70 u71 u72 u73 u74 u75 u76 u77 u78 u79 u80 u81 u82 u83 u84 u85 u86 ho' hb' hs'
                  have HO' := Lib.hid ho'; clear ho'
                  have HB' := Lib.hid hb'; clear hb'
                  have HS' := Lib.hid (hs'.trans HS3.out); clear hs'
                  go_wp2
                  go_roundw
                  case rel => exact ⟨p + 1, by omega, by go_num, by rw [take_snoc' _ _ _ HA.out, List.map_append, ← List.append_assoc]; exact HO'.out, HB3.out.trans HB'.out, HS'.out⟩
                  case measure => simp [intOf]; omega
                · obtain rfl : p = s.areas.length := by omega
                  rw [List.take_length] at ho3
                  have HO3 := Lib.hid ho3; clear ho3
                  have HB3 := Lib.hid hB3; clear hB3
                  clear g7
                  go_wp2
                  go_roundw
                  case rel => exact ⟨q + 1, by omega, by go_num, by rw [take_flatMap HSG.out, show segPieces v.name s = s.areas.map (areaPiece v.name s) from if_pos HOD.out, ← List.append_assoc]; exact HO3.out, HB3.out⟩
                  case measure => simp [intOf]; omega
            · have nb1 : (s.kind != 1) = true := by simp [hkd]
              have nb2 : (s.kind != 2) = false := by simp [hkd]
              clear hkd
              go_wp2
              clear k2 k3
              generalize hBse : wr.heap.size = Bs at *
              clear hBse
              go_loopw [3, 7] (fun vo m wr3 => ∃ p : Nat, p ≤ s.areas.length ∧ m = .int .i64 (p : Int) ∧ OwnP (w.heap.size + 1) wr3 vo ((pieces (vols.take k) ++ (v.segs.take q).flatMap (segPieces v.name)) ++ (s.areas.take p).map (areaPiece v.name s)) ∧ Below (w.heap.size + 1) W wr3 ∧ wr3.heap[Bs]? = some (.cells #[.int .i64 s.start, .int .i64 s.length, .int .i64 s.kind, .slice ap s.areas.length ac, .int .i64 s.chunk, .slice sp s.stale.length sc, .string s.log, .string s.pool, .int .i64 s.device, .int .i64 s.mode, .int .i64 s.done] 101 (0, 0))) (fun _ m _ => s.areas.length - (intOf m).toNat)
              case atStart => exact ⟨0, Nat.zero_le _, rfl, by simpa using HO2.out, HB2.out, HBs.out⟩
              case round =>
                obtain ⟨p, hp, rfl, ho3, hB3, hbs3⟩ := hrel
                have hW3 := hB3.size
                have g7 : wr.cell? ⟨w.heap.size, 7, none⟩ = some (.slice (some ⟨b, off, none⟩) vols.length vc) := (hB3.cell (p := ⟨w.heap.size, 7, none⟩) (by show w.heap.size < w.heap.size + 1; omega)).trans HG7.out
                have hbs3z := lt_of_block hbs3
                have z3 : wr.cell? ⟨Bs, 3, none⟩ = some (.slice ap s.areas.length ac) := by simp [World.cell?, hbs3]
                by_cases hlt3 : p < s.areas.length
                · obtain ⟨a, ha⟩ := getSome s.areas p hlt3
                  have hav := HTS.out HOD.out a (List.mem_of_getElem? ha)
                  obtain ⟨b3, off3, u3, rfl, hob3, hbw3, hul3, hva, hca⟩ := HAR.out.elem ha
                  obtain rfl : u3 = [.bool a.vol, .string a.on, .int .i64 a.start] := hva
                  rw [hav] at hca
                  have hbk : wr.heap[b3]? = w.heap[b3]? := (hB3.block b3 (by omega)).trans (HW.out.block b3 hbw3)
                  have q0 := (World.cell?_of_block (w := w) (a := ⟨b3, off3 + p * 3, none⟩) hbk).trans (hca 0 _ rfl)
                  have q1 := (World.cell?_of_block (w := w) (a := ⟨b3, off3 + p * 3 + 1, none⟩) hbk).trans (hca 1 _ rfl)
                  have q2 := (World.cell?_of_block (w := w) (a := ⟨b3, off3 + p * 3 + 2, none⟩) hbk).trans (hca 2 _ rfl)
                  have hbn : wr.heap[b]? = w.heap[b]? := (hB3.block b (by omega)).trans (HW.out.block b hbw)
                  have n0 := (World.cell?_of_block (w := w) (a := ⟨b, off + k * 6, none⟩) hbn).trans (HCV.out 0 _ rfl)
                  have HA := Lib.hid ha; clear ha
                  have HO3 := Lib.hid ho3; clear ho3
                  have HB3 := Lib.hid hB3; clear hB3
                  have HS3 := Lib.hid hbs3; clear hbs3
                  have HLL : Hid (((pieces (vols.take k) ++ (v.segs.take q).flatMap (segPieces v.name)) ++ (s.areas.take p).map (areaPiece v.name s)).length ≤ 100000) := Lib.hid (by
                    obtain ⟨rest, hrest⟩ := pieces_at HVK.out HSG.out HA.out HOD.out
                    have e := congrArg List.length hrest
                    have hpn' := HPN.out
                    rw [e] at hpn'
                    simp only [List.length_append, pieces] at hpn' ⊢
                    omega)
                  clear hca hbk hul3 hav hbn
                  go_upto_region 14 with (fail)
                  clear q0
                  refine places_reg14 _ _ _ _ _ _ _ _ _ _ _ _ _ _ _ _ _ _ _ _ _ _ _ _ _ _ _ _ _ _ _ _ _ _ _ _ _ _ _ _ _ _ _ _ _ _ _ _ _ _ _ _ _ _ _ _ _ _ _ _ _ _ _ _ _ _ _ _ _ _ _ _ _ _ _ _ _ _ _ _ _ _ _ _ wr (w.heap.size + 1) w.heap.size Bs b b3 off off3 k vols.length p ac sc vc sp s a v.name _ _ (by omega) hlt hlt3 HTL.out HLL.out HSL.out (by omega) g7 (by omega) n0 HS3.out (by omega) q1 q2 HO3.out (Lib.hid ?_) ?hQ
                  case hQ => exact fun _ _ _ _ _ h => h
                  clear g7 n0 q1 q2 z3
                  intro v' w' u62 u63 u64 u65 u66 u67 u68 u69 u70 u71 u72 u73 u74 u75 u76 u77 u78 u79 u80 u81 u82 u83 u84 u85 u86 ho' hb' hs'
                  have HO' := Lib.hid ho'; clear ho'
                  have HB' := Lib.hid hb'; clear hb'
                  have HS' := Lib.hid (hs'.trans HS3.out); clear hs'
                  go_wp2
                  go_roundw
                  case rel => exact ⟨p + 1, by omega, by go_num, by rw [take_snoc' _ _ _ HA.out, List.map_append, ← List.append_assoc]; exact HO'.out, HB3.out.trans HB'.out, HS'.out⟩
                  case measure => simp [intOf]; omega
                · obtain rfl : p = s.areas.length := by omega
                  rw [List.take_length] at ho3
                  have HO3 := Lib.hid ho3; clear ho3
                  have HB3 := Lib.hid hB3; clear hB3
                  clear g7
                  go_wp2
                  go_roundw
                  case rel => exact ⟨q + 1, by omega, by go_num, by rw [take_flatMap HSG.out, show segPieces v.name s = s.areas.map (areaPiece v.name s) from if_pos HOD.out, ← List.append_assoc]; exact HO3.out, HB3.out⟩
                  case measure => simp [intOf]; omega
            · have nb1 : (s.kind != 1) = true := by simp [hkd]
              have nb2 : (s.kind != 2) = true := by simp [hkd]
              have nb8 : (s.kind != 8) = false := by simp [hkd]
              clear hkd
              go_wp2
              clear k2 k3
              generalize hBse : wr.heap.size = Bs at *
              clear hBse
              go_loopw [3, 7] (fun vo m wr3 => ∃ p : Nat, p ≤ s.areas.length ∧ m = .int .i64 (p : Int) ∧ OwnP (w.heap.size + 1) wr3 vo ((pieces (vols.take k) ++ (v.segs.take q).flatMap (segPieces v.name)) ++ (s.areas.take p).map (areaPiece v.name s)) ∧ Below (w.heap.size + 1) W wr3 ∧ wr3.heap[Bs]? = some (.cells #[.int .i64 s.start, .int .i64 s.length, .int .i64 s.kind, .slice ap s.areas.length ac, .int .i64 s.chunk, .slice sp s.stale.length sc, .string s.log, .string s.pool, .int .i64 s.device, .int .i64 s.mode, .int .i64 s.done] 101 (0, 0))) (fun _ m _ => s.areas.length - (intOf m).toNat)
              case atStart => exact ⟨0, Nat.zero_le _, rfl, by simpa using HO2.out, HB2.out, HBs.out⟩
              case round =>
                obtain ⟨p, hp, rfl, ho3, hB3, hbs3⟩ := hrel
                have hW3 := hB3.size
                have g7 : wr.cell? ⟨w.heap.size, 7, none⟩ = some (.slice (some ⟨b, off, none⟩) vols.length vc) := (hB3.cell (p := ⟨w.heap.size, 7, none⟩) (by show w.heap.size < w.heap.size + 1; omega)).trans HG7.out
                have hbs3z := lt_of_block hbs3
                have z3 : wr.cell? ⟨Bs, 3, none⟩ = some (.slice ap s.areas.length ac) := by simp [World.cell?, hbs3]
                by_cases hlt3 : p < s.areas.length
                · obtain ⟨a, ha⟩ := getSome s.areas p hlt3
                  have hav := HTS.out HOD.out a (List.mem_of_getElem? ha)
                  obtain ⟨b3, off3, u3, rfl, hob3, hbw3, hul3, hva, hca⟩ := HAR.out.elem ha
                  obtain rfl : u3 = [.bool a.vol, .string a.on, .int .i64 a.start] := hva
                  rw [hav] at hca
                  have hbk : wr.heap[b3]? = w.heap[b3]? := (hB3.block b3 (by omega)).trans (HW.out.block b3 hbw3)
                  have q0 := (World.cell?_of_block (w := w) (a := ⟨b3, off3 + p * 3, none⟩) hbk).trans (hca 0 _ rfl)
                  have q1 := (World.cell?_of_block (w := w) (a := ⟨b3, off3 + p * 3 + 1, none⟩) hbk).trans (hca 1 _ rfl)
                  have q2 := (World.cell?_of_block (w := w) (a := ⟨b3, off3 + p * 3 + 2, none⟩) hbk).trans (hca 2 _ rfl)
                  have hbn : wr.heap[b]? = w.heap[b]? := (hB3.block b (by omega)).trans (HW.out.block b hbw)
                  have n0 := (World.cell?_of_block (w := w) (a := ⟨b, off + k * 6, none⟩) hbn).trans (HCV.out 0 _ rfl)
                  have HA := Lib.hid ha; clear ha
                  have HO3 := Lib.hid ho3; clear ho3
                  have HB3 := Lib.hid hB3; clear hB3
                  have HS3 := Lib.hid hbs3; clear hbs3
                  have HLL : Hid (((pieces (vols.take k) ++ (v.segs.take q).flatMap (segPieces v.name)) ++ (s.areas.take p).map (areaPiece v.name s)).length ≤ 100000) := Lib.hid (by
                    obtain ⟨rest, hrest⟩ := pieces_at HVK.out HSG.out HA.out HOD.out
                    have e := congrArg List.length hrest
                    have hpn' := HPN.out
                    rw [e] at hpn'
                    simp only [List.length_append, pieces] at hpn' ⊢
                    omega)
                  clear hca hbk hul3 hav hbn
                  go_upto_region 14 with (fail)
                  clear q0
                  refine places_reg14 _ _ _ _ _ _ _ _ _ _ _ _ _ _ _ _ _ _ _ _ _ _ _ _ _ _ _ _ _ _ _ _ _ _ _ _ _ _ _ _ _ _ _ _ _ _ _ _ _ _ _ _ _ _ _ _ _ _ _ _ _ _ _ _ _ _ _ _ _ _ _ _ _ _ _ _ _ _ _ _ _ _ _ _ wr (w.heap.size + 1) w.heap.size Bs b b3 off off3 k vols.length p ac sc vc sp s a v.name _ _ (by omega) hlt hlt3 HTL.out HLL.out HSL.out (by omega) g7 (by omega) n0 HS3.out (by omega) q1 q2 HO3.out (Lib.hid ?_) ?hQ
                  case hQ => exact fun _ _ _ _ _ h => h
                  clear g7 n0 q1 q2 z3
                  intro v' w' u62 u63 u64 u65 u66 u67 u68 u69 u70 u71 u72 u73 u74 u75 u76 u77 u78 u79 u80 u81 u82 u83 u84 u85 u86 ho' hb' hs'
                  have HO' := Lib.hid ho'; clear ho'
                  have HB' := Lib.hid hb'; clear hb'
                  have HS' := Lib.hid (hs'.trans HS3.out); clear hs'
                  go_wp2
                  go_roundw
                  case rel => exact ⟨p + 1, by omega, by go_num, by rw [take_snoc' _ _ _ HA.out, List.map_append, ← List.append_assoc]; exact HO'.out, HB3.out.trans HB'.out, HS'.out⟩
                  case measure => simp [intOf]; omega
                · obtain rfl : p = s.areas.length := by omega
                  rw [List.take_length] at ho3
                  have HO3 := Lib.hid ho3; clear ho3
                  have HB3 := Lib.hid hB3; clear hB3
                  clear g7
                  go_wp2
                  go_roundw
                  case rel => exact ⟨q + 1, by omega, by go_num, by rw [take_flatMap HSG.out, show segPieces v.name s = s.areas.map (areaPiece v.name s) from if_pos HOD.out, ← List.append_assoc]; exact HO3.out, HB3.out⟩
                  case measure => simp [intOf]; omega
          · have n1 : ¬ s.kind = 1 := fun e => hod (.inl e)
            have n2 : ¬ s.kind = 2 := fun e => hod (.inr (.inl e))
            have n8 : ¬ s.kind = 8 := fun e => hod (.inr (.inr e))
            have nb1 : (s.kind != 1) = true := by simpa using n1
            have nb2 : (s.kind != 2) = true := by simpa using n2
            have nb8 : (s.kind != 8) = true := by simpa using n8
            have HOD := Lib.hid hod; clear hod n1 n2 n8
            go_wp2
            go_roundw
            case rel => exact ⟨q + 1, by omega, by go_num, by rw [take_flatMap HSG.out, show segPieces v.name s = [] from if_neg HOD.out, List.append_nil]; exact HO2.out, HB2.out⟩
            case measure => simp [intOf]; omega
        · obtain rfl : q = v.segs.length := by omega
          rw [List.take_length] at ho
          have HO2 := Lib.hid ho; clear ho
          have HB2 := Lib.hid hB; clear hB
          go_wp2
          go_roundw
          case rel => exact ⟨k + 1, by omega, by go_num, by rw [take_snoc' _ _ _ HVK.out]; simp only [pieces, List.flatMap_append, List.flatMap_cons, List.flatMap_nil, List.append_nil]; exact HO2.out, HB2.out⟩
          case measure => simp [intOf]; omega
    · obtain rfl : k = vols.length := by omega
      rw [List.take_length] at ho
      have HO2 := Lib.hid ho; clear ho
      have HB2 := Lib.hid hB; clear hB
      go_wp2
      go_ret
      refine ⟨_, rfl, ?_, HW.out.trans (HB2.out.mono (by omega))⟩
      obtain ⟨cs, hro, hf⟩ := HO2.out
      exact ⟨cs, ⟨hro.1, by
        rcases hro.2 with q | ⟨g, cap, cur, e, h1, h2⟩
        · exact .inl q
        · exact .inr ⟨g, cap, cur, e, by omega, h2⟩⟩, hf⟩

end Go.Proofs.Yteengifhndmjeaa
