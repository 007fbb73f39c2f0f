/- Lemmas: AlcH, AlcI. -/
import Derived.Test.YtjdfihglehfelaaGreatDoorQm38
import Derived.Lib.LazyBuf
set_option maxRecDepth 100000
set_option maxHeartbeats 32000000
set_option linter.all false
namespace Go.Proofs.YtjdfihglehfelaaGreatDoor
open Go.Proofs.Tryz
open Go.RowKit Go.Maps Go.Shelf
attribute [local go_sem] Oper.semAt_some
section
variable {n lr:Nat}{P:Program}{Q:Exit->Act->World->Prop}
theorem pz {id:Nat}{a:Act}{w:World}{l:List Oper}(hd:EC l.toArray=true)(hl:¬ LetsOut Q)(hm:P.follows .mixedOrders=true)(hB:Region.lexB .any l.toArray=true)
  (h:wpQuiet P l.toArray (fun w'=>∃ p:fo,w'=ext w p) (fun a'=>∀ w',(∃ p:fo,w'=ext w p)->Q .normal a' w') l a):(Code.region id l.toArray true).wpIn (Fence.wide.inRound lr) n P Q a w:=by
 simp only [Region.lexB,eh] at hB;refine wpIn_region_any hm (Gw hd hl _ _ _ _ (wpAny_of_quiet (C:=fun w'=>∃ p:fo,w'=ext w p) (Q:=fun a'=>∀ w',(∃ p:fo,w'=ext w p)->Q .normal a' w') (fun _ w' hw' h=>h w' hw') _ _ _ _ (jX ((bj _ w).drew)) ?_));have:=wpAnyQ_lex (C:=fun w'=>∃ p:fo,w'=ext w p) (md:=.any) hB.1 l 0 (Array.replicate l.toArray.size false) a Tce (by simpa using hB.2) h;simpa using this
end
variable {B k:Nat}{w:World}{v:Value}{xs:List (List aR)}
theorem mi.notT {cs:Array Value}{t:TypeId}{z:Nat × Nat}(h:mi w B v xs)(hk:w.heap[k]?=some (.cells cs t z))(ht:t≠57):v.ownBlock≠some k:=fun e=>by
 obtain ⟨_,ho,_⟩:=h;rcases ho.2 with ⟨rfl,_⟩ | ⟨g,cap,cur,rfl,_,gA,_⟩
 ·cases e
 ·obtain rfl:g=k:=by injection e
  rw [hk] at gA;injection gA with gA
  injection gA with _ gA _
  exact ht gA
theorem mi.ge (h:mi w B v xs)(e:v.ownBlock=some k):B<=k/\k<w.heap.size:=by
 obtain ⟨_,ho,_⟩:=h;exact fh ho k e
theorem Tb3 {p:Prop}(h:p:=by
 clear ht hl hm hr MC hbl Hv hbr
 have RH:=aa fun W=>yx g a r pv W hq
 (refine pz Tcf Tj Tcf Tcf ?_;(repeat (go_big_quiet_step (((first | (go_at_call 78;exact iH (RH.o _)) | fail)))));(with_reducible refine fR ?_);intro wq ia;have kq:=dY ia;clear ia)
 exact HK.o _ _ _ _ _ _ _ _ _ _ _ _ _ _ _ _ _ _ _ _ _ _ _ _ wq kq):p:=h
theorem Ta5 {p:Prop}(h:p:=by
 exact Tb3):p:=h
theorem IX (Q:Exit->Act->World->Prop)(lr nn:Nat)(c0 c2 c3 c6 c9 c10 c11 c12 c13 c14 c15 c16 c17 c18 c19 c20 c21 c22 c23 c24 c25 c26 c27 c28 c29 c30 c31 c32 c33 c34 c35 c36 c37 c38 c39 c40 c41 c42 c43 c44 c45 c46 c47 c48 c49 c50 c51 c52 c53 c54 c55 c56 c57 c58 c59 c60 c61 c62 c63 c64 c65 c66 c67 c68 c69 c70 c71 c72 c73 c74 c75:Value)(w:World)(g:af)(a:bN)(r:aY)(pv:Value)(vp:Option Addr)(vl vc:Nat)(st n:Int)(Bt Bl Bm Br bm:Nat)(cls:ByteArray)(mem:Bool)(hq:rC r)(mb:vl<=100000)
  (ht:w.heap[Bt]?=some (.cells (Taf g a r pv) 120 (0,0))) (hl:w.heap[Bl]?=some (.cells #[.slice vp vl vc] 67 (0,0))) (hm:w.heap[Bm]?=some (.cells #[.map (some bm)] 130 (0,0))) (hr:w.heap[Br]?=some (.cells #[.int .i64 st,.int .i64 n] 62 (0,0)))
  (hlk:∀ p:fo,(Instr.lookup 130 (.map (some bm)) (.string cls) false).run prog (ext w p)=.ok (.bool mem) (ext w p)) (g1:decide (n ≥ r.Gc)=false)
  (HK:Hid (∀ (u20 u21 u22 u23 u24 u25 u26 u27 u28 u29 u30 u31 u32 u33 u34 u35 u36 u37 u38 u39 u40 u41 u42 u43:Value) (W':World),Below w.heap.size w W'->Q .normal ⟨#[c0,.pointer (some Bt),c2,c3,.pointer (some Bl),.pointer (some Bm),c6,.pointer (some Br),.string cls,c9,c10,c11,c12,c13,c14,c15,c16,c17,c18,c19,u20,u21,u22,u23,u24,u25,u26,u27,u28,u29,u30,u31,u32,u33,u34,u35,u36,u37,u38,u39,u40,u41,u42,u43,.bool false,c45,c46,c47,c48,c49,c50,c51,c52,c53,c54,c55,c56,c57,c58,c59,c60,c61,c62,c63,c64,c65,c66,c67,c68,c69,c70,c71,c72,c73,c74,c75],[]⟩ W')) (Tj:¬ LetsOut Q) :
  (Gz Tryz.f72 7).wpIn (Fence.wide.inRound lr) nn prog Q ⟨#[c0,.pointer (some Bt),c2,c3,.pointer (some Bl),.pointer (some Bm),c6,.pointer (some Br),.string cls,c9,c10,c11,c12,c13,c14,c15,c16,c17,c18,c19,c20,c21,c22,c23,c24,c25,c26,c27,c28,c29,c30,c31,c32,c33,c34,c35,c36,c37,c38,c39,c40,c41,c42,c43,c44,c45,c46,c47,c48,c49,c50,c51,c52,c53,c54,c55,c56,c57,c58,c59,c60,c61,c62,c63,c64,c65,c66,c67,c68,c69,c70,c71,c72,c73,c74,c75],[]⟩ w:=by
 conv=>arg 4;whnf
 dsimp only;have MC:=aq ht;have hbl:=aq hl;have Hv:=aq hm;have hbr:=aq hr;have ae7:=aG MC (cz ht 11 _ rfl);have er1:=aG hbr (cz hr 1 _ rfl);exact Ta5
theorem TaY {p:Prop}(h:p:=by
 conv=>arg 4;whnf
 dsimp only
 have MC:=aq ht
 have hbl:=aq hl
 have Hv:=aq hm
 have hbr:=aq hr
 have ae7:=aG MC (cz ht 11 _ rfl)
 have er1:=aG hbr (cz hr 1 _ rfl)
 have el0:=aG hbl (cz hl 0 _ rfl)
 have et0:=aG MC (cz ht 0 _ rfl)
 have et1:=aG MC (cz ht 1 _ rfl)
 have et2:=aG MC (cz ht 2 _ rfl)
 have et3:=aG MC (cz ht 3 _ rfl)
 have et4:=aG MC (cz ht 4 _ rfl)
 have et5:=aG MC (cz ht 5 _ rfl)
 have et6:=aG MC (cz ht 6 _ rfl)
 have et7:=aG MC (cz ht 7 _ rfl)
 have et8:=aG MC (cz ht 8 _ rfl)
 have et9:=aG MC (cz ht 9 _ rfl)
 have af2:=aG MC (cz ht 10 _ rfl)
 have af3:=aG MC (cz ht 12 _ rfl)
 have af4:=aG MC (cz ht 13 _ rfl)
 have af5:=aG MC (cz ht 14 _ rfl)
 have af6:=aG MC (cz ht 15 _ rfl)
 have af7:=aG MC (cz ht 16 _ rfl)
 exact Tb3):p:=h
theorem I9 (Q:Exit->Act->World->Prop)(lr nn:Nat)(c0 c2 c3 c6 c9 c10 c11 c12 c13 c14 c15 c16 c17 c18 c19 c20 c21 c22 c23 c24 c25 c26 c27 c28 c29 c30 c31 c32 c33 c34 c35 c36 c37 c38 c39 c40 c41 c42 c43 c44 c45 c46 c47 c48 c49 c50 c51 c52 c53 c54 c55 c56 c57 c58 c59 c60 c61 c62 c63 c64 c65 c66 c67 c68 c69 c70 c71 c72 c73 c74 c75:Value)(w:World)(g:af)(a:bN)(r:aY)(pv:Value)(vp:Option Addr)(vl vc:Nat)(st n:Int)(Bt Bl Bm Br bm:Nat)(cls:ByteArray)(mem:Bool)(hq:rC r)(mb:vl<=100000)
  (ht:w.heap[Bt]?=some (.cells (Taf g a r pv) 120 (0,0))) (hl:w.heap[Bl]?=some (.cells #[.slice vp vl vc] 67 (0,0))) (hm:w.heap[Bm]?=some (.cells #[.map (some bm)] 130 (0,0))) (hr:w.heap[Br]?=some (.cells #[.int .i64 st,.int .i64 n] 62 (0,0)))
  (hlk:∀ p:fo,(Instr.lookup 130 (.map (some bm)) (.string cls) false).run prog (ext w p)=.ok (.bool mem) (ext w p)) (g1:decide (n ≥ r.Gc)=true) (g2:decide ((vl:Int)<r.Gi*r.Gh)=false)
  (HK:Hid (∀ (u20 u21 u22 u23 u24 u25 u26 u27 u28 u29 u30 u31 u32 u33 u34 u35 u36 u37 u38 u39 u40 u41 u42 u43:Value) (W':World),Below w.heap.size w W'->Q .normal ⟨#[c0,.pointer (some Bt),c2,c3,.pointer (some Bl),.pointer (some Bm),c6,.pointer (some Br),.string cls,c9,c10,c11,c12,c13,c14,c15,c16,c17,c18,c19,u20,u21,u22,u23,u24,u25,u26,u27,u28,u29,u30,u31,u32,u33,u34,u35,u36,u37,u38,u39,u40,u41,u42,u43,.bool false,c45,c46,c47,c48,c49,c50,c51,c52,c53,c54,c55,c56,c57,c58,c59,c60,c61,c62,c63,c64,c65,c66,c67,c68,c69,c70,c71,c72,c73,c74,c75],[]⟩ W')) (Tj:¬ LetsOut Q) :
  (Gz Tryz.f72 7).wpIn (Fence.wide.inRound lr) nn prog Q ⟨#[c0,.pointer (some Bt),c2,c3,.pointer (some Bl),.pointer (some Bm),c6,.pointer (some Br),.string cls,c9,c10,c11,c12,c13,c14,c15,c16,c17,c18,c19,c20,c21,c22,c23,c24,c25,c26,c27,c28,c29,c30,c31,c32,c33,c34,c35,c36,c37,c38,c39,c40,c41,c42,c43,c44,c45,c46,c47,c48,c49,c50,c51,c52,c53,c54,c55,c56,c57,c58,c59,c60,c61,c62,c63,c64,c65,c66,c67,c68,c69,c70,c71,c72,c73,c74,c75],[]⟩ w:=by
 exact TaY
theorem Ji (Q:Exit->Act->World->Prop)(lr nn:Nat)(c0 c2 c3 c6 c9 c10 c11 c12 c13 c14 c15 c16 c17 c18 c19 c20 c21 c22 c23 c24 c25 c26 c27 c28 c29 c30 c31 c32 c33 c34 c35 c36 c37 c38 c39 c40 c41 c42 c43 c44 c45 c46 c47 c48 c49 c50 c51 c52 c53 c54 c55 c56 c57 c58 c59 c60 c61 c62 c63 c64 c65 c66 c67 c68 c69 c70 c71 c72 c73 c74 c75:Value)(w:World)(g:af)(a:bN)(r:aY)(pv:Value)(vp:Option Addr)(vl vc:Nat)(st n:Int)(Bt Bl Bm Br bm:Nat)(cls:ByteArray)(mem:Bool)(hq:rC r)(mb:vl<=100000)
  (ht:w.heap[Bt]?=some (.cells (Taf g a r pv) 120 (0,0))) (hl:w.heap[Bl]?=some (.cells #[.slice vp vl vc] 67 (0,0))) (hm:w.heap[Bm]?=some (.cells #[.map (some bm)] 130 (0,0))) (hr:w.heap[Br]?=some (.cells #[.int .i64 st,.int .i64 n] 62 (0,0)))
  (hlk:∀ p:fo,(Instr.lookup 130 (.map (some bm)) (.string cls) false).run prog (ext w p)=.ok (.bool mem) (ext w p)) (g1:decide (n ≥ r.Gc)=true) (g2:decide ((vl:Int)<r.Gi*r.Gh)=true) (g3:(r.Gg == 5)=true)
  (HK:Hid (∀ (u20 u21 u22 u23 u24 u25 u26 u27 u28 u29 u30 u31 u32 u33 u34 u35 u36 u37 u38 u39 u40 u41 u42 u43:Value) (W':World),Below w.heap.size w W'->Q .normal ⟨#[c0,.pointer (some Bt),c2,c3,.pointer (some Bl),.pointer (some Bm),c6,.pointer (some Br),.string cls,c9,c10,c11,c12,c13,c14,c15,c16,c17,c18,c19,u20,u21,u22,u23,u24,u25,u26,u27,u28,u29,u30,u31,u32,u33,u34,u35,u36,u37,u38,u39,u40,u41,u42,u43,.bool true,c45,c46,c47,c48,c49,c50,c51,c52,c53,c54,c55,c56,c57,c58,c59,c60,c61,c62,c63,c64,c65,c66,c67,c68,c69,c70,c71,c72,c73,c74,c75],[]⟩ W')) (Tj:¬ LetsOut Q) :
  (Gz Tryz.f72 7).wpIn (Fence.wide.inRound lr) nn prog Q ⟨#[c0,.pointer (some Bt),c2,c3,.pointer (some Bl),.pointer (some Bm),c6,.pointer (some Br),.string cls,c9,c10,c11,c12,c13,c14,c15,c16,c17,c18,c19,c20,c21,c22,c23,c24,c25,c26,c27,c28,c29,c30,c31,c32,c33,c34,c35,c36,c37,c38,c39,c40,c41,c42,c43,c44,c45,c46,c47,c48,c49,c50,c51,c52,c53,c54,c55,c56,c57,c58,c59,c60,c61,c62,c63,c64,c65,c66,c67,c68,c69,c70,c71,c72,c73,c74,c75],[]⟩ w:=by
 exact TaY
theorem Jl (Q:Exit->Act->World->Prop)(lr nn:Nat)(c0 c2 c3 c6 c9 c10 c11 c12 c13 c14 c15 c16 c17 c18 c19 c20 c21 c22 c23 c24 c25 c26 c27 c28 c29 c30 c31 c32 c33 c34 c35 c36 c37 c38 c39 c40 c41 c42 c43 c44 c45 c46 c47 c48 c49 c50 c51 c52 c53 c54 c55 c56 c57 c58 c59 c60 c61 c62 c63 c64 c65 c66 c67 c68 c69 c70 c71 c72 c73 c74 c75:Value)(w:World)(g:af)(a:bN)(r:aY)(pv:Value)(vp:Option Addr)(vl vc:Nat)(st n:Int)(Bt Bl Bm Br bm:Nat)(cls:ByteArray)(mem:Bool)(hq:rC r)(mb:vl<=100000)
  (ht:w.heap[Bt]?=some (.cells (Taf g a r pv) 120 (0,0))) (hl:w.heap[Bl]?=some (.cells #[.slice vp vl vc] 67 (0,0))) (hm:w.heap[Bm]?=some (.cells #[.map (some bm)] 130 (0,0))) (hr:w.heap[Br]?=some (.cells #[.int .i64 st,.int .i64 n] 62 (0,0)))
  (hlk:∀ p:fo,(Instr.lookup 130 (.map (some bm)) (.string cls) false).run prog (ext w p)=.ok (.bool mem) (ext w p)) (g1:decide (n ≥ r.Gc)=true) (g2:decide ((vl:Int)<r.Gi*r.Gh)=true) (g3:(r.Gg == 5)=false)
  (HK:Hid (∀ (u20 u21 u22 u23 u24 u25 u26 u27 u28 u29 u30 u31 u32 u33 u34 u35 u36 u37 u38 u39 u40 u41 u42 u43:Value) (W':World),Below w.heap.size w W'->Q .normal ⟨#[c0,.pointer (some Bt),c2,c3,.pointer (some Bl),.pointer (some Bm),c6,.pointer (some Br),.string cls,c9,c10,c11,c12,c13,c14,c15,c16,c17,c18,c19,u20,u21,u22,u23,u24,u25,u26,u27,u28,u29,u30,u31,u32,u33,u34,u35,u36,u37,u38,u39,u40,u41,u42,u43,.bool (!mem),c45,c46,c47,c48,c49,c50,c51,c52,c53,c54,c55,c56,c57,c58,c59,c60,c61,c62,c63,c64,c65,c66,c67,c68,c69,c70,c71,c72,c73,c74,c75],[]⟩ W')) (Tj:¬ LetsOut Q) :
  (Gz Tryz.f72 7).wpIn (Fence.wide.inRound lr) nn prog Q ⟨#[c0,.pointer (some Bt),c2,c3,.pointer (some Bl),.pointer (some Bm),c6,.pointer (some Br),.string cls,c9,c10,c11,c12,c13,c14,c15,c16,c17,c18,c19,c20,c21,c22,c23,c24,c25,c26,c27,c28,c29,c30,c31,c32,c33,c34,c35,c36,c37,c38,c39,c40,c41,c42,c43,c44,c45,c46,c47,c48,c49,c50,c51,c52,c53,c54,c55,c56,c57,c58,c59,c60,c61,c62,c63,c64,c65,c66,c67,c68,c69,c70,c71,c72,c73,c74,c75],[]⟩ w:=by
 conv=>arg 4;whnf
 dsimp only;have MC:=aq ht;have hbl:=aq hl;have Hv:=aq hm;have hbr:=aq hr;have ae7:=aG MC (cz ht 11 _ rfl);have er1:=aG hbr (cz hr 1 _ rfl);have el0:=aG hbl (cz hl 0 _ rfl);have et0:=aG MC (cz ht 0 _ rfl);have et1:=aG MC (cz ht 1 _ rfl);have et2:=aG MC (cz ht 2 _ rfl);have et3:=aG MC (cz ht 3 _ rfl);have et4:=aG MC (cz ht 4 _ rfl);have et5:=aG MC (cz ht 5 _ rfl);have et6:=aG MC (cz ht 6 _ rfl);have et7:=aG MC (cz ht 7 _ rfl);have et8:=aG MC (cz ht 8 _ rfl);have et9:=aG MC (cz ht 9 _ rfl);have af2:=aG MC (cz ht 10 _ rfl);have af3:=aG MC (cz ht 12 _ rfl);have af4:=aG MC (cz ht 13 _ rfl);have af5:=aG MC (cz ht 14 _ rfl);have af6:=aG MC (cz ht 15 _ rfl);have af7:=aG MC (cz ht 16 _ rfl);have em0:=aG Hv (cz hm 0 _ rfl);exact Ta5
theorem Jv (Q:Exit->Act->World->Prop)(lr nn:Nat)(c0 c2 c3 c6 c9 c10 c11 c12 c13 c14 c15 c16 c17 c18 c19 c20 c21 c22 c23 c24 c25 c26 c27 c28 c29 c30 c31 c32 c33 c34 c35 c36 c37 c38 c39 c40 c41 c42 c43 c44 c45 c46 c47 c48 c49 c50 c51 c52 c53 c54 c55 c56 c57 c58 c59 c60 c61 c62 c63 c64 c65 c66 c67 c68 c69 c70 c71 c72 c73 c74 c75:Value)(w:World)(g:af)(a:bN)(r:aY)(pv:Value)(vp:Option Addr)(vl vc:Nat)(st n:Int)(Bt Bl Bm Br bm:Nat)(cls:ByteArray)(mem:Bool)(hq:rC r)(mb:vl<=100000)
  (ht:w.heap[Bt]?=some (.cells (Taf g a r pv) 120 (0,0))) (hl:w.heap[Bl]?=some (.cells #[.slice vp vl vc] 67 (0,0))) (hm:w.heap[Bm]?=some (.cells #[.map (some bm)] 130 (0,0))) (hr:w.heap[Br]?=some (.cells #[.int .i64 st,.int .i64 n] 62 (0,0)))
  (hlk:∀ p:fo,(Instr.lookup 130 (.map (some bm)) (.string cls) false).run prog (ext w p)=.ok (.bool mem) (ext w p))
  (HK:Hid (∀ (u20 u21 u22 u23 u24 u25 u26 u27 u28 u29 u30 u31 u32 u33 u34 u35 u36 u37 u38 u39 u40 u41 u42 u43:Value) (W':World) (b:Bool),b=(decide (n ≥ r.Gc)&&(decide ((vl:Int)<r.Gi*r.Gh)&&(r.Gg == 5||!mem)))->Below w.heap.size w W'->Q .normal ⟨#[c0,.pointer (some Bt),c2,c3,.pointer (some Bl),.pointer (some Bm),c6,.pointer (some Br),.string cls,c9,c10,c11,c12,c13,c14,c15,c16,c17,c18,c19,u20,u21,u22,u23,u24,u25,u26,u27,u28,u29,u30,u31,u32,u33,u34,u35,u36,u37,u38,u39,u40,u41,u42,u43,.bool b,c45,c46,c47,c48,c49,c50,c51,c52,c53,c54,c55,c56,c57,c58,c59,c60,c61,c62,c63,c64,c65,c66,c67,c68,c69,c70,c71,c72,c73,c74,c75],[]⟩ W')) (Tj:¬ LetsOut Q) :
  (Gz Tryz.f72 7).wpIn (Fence.wide.inRound lr) nn prog Q ⟨#[c0,.pointer (some Bt),c2,c3,.pointer (some Bl),.pointer (some Bm),c6,.pointer (some Br),.string cls,c9,c10,c11,c12,c13,c14,c15,c16,c17,c18,c19,c20,c21,c22,c23,c24,c25,c26,c27,c28,c29,c30,c31,c32,c33,c34,c35,c36,c37,c38,c39,c40,c41,c42,c43,c44,c45,c46,c47,c48,c49,c50,c51,c52,c53,c54,c55,c56,c57,c58,c59,c60,c61,c62,c63,c64,c65,c66,c67,c68,c69,c70,c71,c72,c73,c74,c75],[]⟩ w:=by
 cases g1:decide (n ≥ r.Gc) with
 | false=>exact IX Q lr nn _ _ _ _ _ _ _ _ _ _ _ _ _ _ _ _ _ _ _ _ _ _ _ _ _ _ _ _ _ _ _ _ _ _ _ _ _ _ _ _ _ _ _ _ _ _ _ _ _ _ _ _ _ _ _ _ _ _ _ _ _ _ _ _ _ _ _ _ _ _ _ w g a r pv vp vl vc st n Bt Bl Bm Br bm cls mem hq mb ht hl hm hr hlk g1 (aa fun _ _ _ _ _ _ _ _ _ _ _ _ _ _ _ _ _ _ _ _ _ _ _ _ W' hb=>HK.o _ _ _ _ _ _ _ _ _ _ _ _ _ _ _ _ _ _ _ _ _ _ _ _ W' false (by rw [g1];rfl) hb) Tj
 | true =>
  cases g2:decide ((vl:Int)<r.Gi*r.Gh) with
  | false=>exact I9 Q lr nn _ _ _ _ _ _ _ _ _ _ _ _ _ _ _ _ _ _ _ _ _ _ _ _ _ _ _ _ _ _ _ _ _ _ _ _ _ _ _ _ _ _ _ _ _ _ _ _ _ _ _ _ _ _ _ _ _ _ _ _ _ _ _ _ _ _ _ _ _ _ _ w g a r pv vp vl vc st n Bt Bl Bm Br bm cls mem hq mb ht hl hm hr hlk g1 g2 (aa fun _ _ _ _ _ _ _ _ _ _ _ _ _ _ _ _ _ _ _ _ _ _ _ _ W' hb=>HK.o _ _ _ _ _ _ _ _ _ _ _ _ _ _ _ _ _ _ _ _ _ _ _ _ W' false (by rw [g1,g2];rfl) hb) Tj
  | true =>
   cases g3:r.Gg == 5 with
   | true=>exact Ji Q lr nn _ _ _ _ _ _ _ _ _ _ _ _ _ _ _ _ _ _ _ _ _ _ _ _ _ _ _ _ _ _ _ _ _ _ _ _ _ _ _ _ _ _ _ _ _ _ _ _ _ _ _ _ _ _ _ _ _ _ _ _ _ _ _ _ _ _ _ _ _ _ _ w g a r pv vp vl vc st n Bt Bl Bm Br bm cls mem hq mb ht hl hm hr hlk g1 g2 g3 (aa fun _ _ _ _ _ _ _ _ _ _ _ _ _ _ _ _ _ _ _ _ _ _ _ _ W' hb=>HK.o _ _ _ _ _ _ _ _ _ _ _ _ _ _ _ _ _ _ _ _ _ _ _ _ W' true (by rw [g1,g2,g3];rfl) hb) Tj
   | false=>exact Jl Q lr nn _ _ _ _ _ _ _ _ _ _ _ _ _ _ _ _ _ _ _ _ _ _ _ _ _ _ _ _ _ _ _ _ _ _ _ _ _ _ _ _ _ _ _ _ _ _ _ _ _ _ _ _ _ _ _ _ _ _ _ _ _ _ _ _ _ _ _ _ _ _ _ w g a r pv vp vl vc st n Bt Bl Bm Br bm cls mem hq mb ht hl hm hr hlk g1 g2 g3 (aa fun _ _ _ _ _ _ _ _ _ _ _ _ _ _ _ _ _ _ _ _ _ _ _ _ W' hb=>HK.o _ _ _ _ _ _ _ _ _ _ _ _ _ _ _ _ _ _ _ _ _ _ _ _ W' (!mem) (by rw [g1,g2,g3];rfl) hb) Tj
theorem TbB {p:Prop}(h:p:=by
 injection hk with _ hk2 _
 subst hk2
 rcases ht with ⟨h,_⟩ | h
 ·exact absurd h Tcg
 ·exact absurd h Tcg):p:=h
theorem Js {ok:Nat->Prop}(Q:Exit->Act->World->Prop)(lr nn:Nat){c0 c2 c3 c5 c8 c9 c10 c11 c12 c13 c14 c15 c16 c17 c18 c19 c20 c21 c22 c23 c24 c25 c26 c27 c28 c29 c30 c31 c32 c33 c34 c35 c36 c37 c38 c39 c40 c41 c42 c43 c44 c45 c46 c47 c48 c49 c50 c51 c52 c53 c54 c55 c56 c57 c58 c59 c60 c61 c62 c63 c64 c65 c66 c67 c68 c69 c70 c71 c72 c73 c74 c75:Value}(w:World)(g:af)(a:bN)(r:aY)(pv v:Value)(B Bt Bl Br k:Nat)(d:az)(p:Int × Int)(l:List (List aR))
  (ht:w.heap[Bt]?=some (.cells (Taf g a r pv) 120 (0,0))) (hl:w.heap[Bl]?=some (.cells #[v] 67 (0,0))) (hr:w.heap[Br]?=some (.cells #[.int .i64 p.1,.int .i64 p.2] 62 (0,0))) (hO:mi w B v l) (hB:B<=w.heap.size) (Tl:l.length<=100000)
  (kf:ck aO 7 ok w [.slice a.dp g.Gb.length a.dc] g.Gb) (hd:g.Gb[k]?=some d) (CD:g.Gb.length<=1000000)
  (HK:Hid (∀ (v':Value) (W':World) (u47 u48 u49 u50 u51 u52 u53 u54 u55:Value),mi W' B v' (l++[[⟨false,d.name,p.1⟩]])->W'.heap[Bl]?=some (.cells #[v'] 67 (0,0))->(∀ b,b<w.heap.size->b≠Bl->v.ownBlock≠some b->W'.heap[b]?=w.heap[b]?)->w.heap.size<=W'.heap.size->W'.os=w.os->W'.tape=w.tape->W'.output=w.output->Q .normal ⟨#[c0,.pointer (some Bt),c2,c3,.pointer (some Bl),c5,.int .i64 (k:Int),.pointer (some Br),c8,c9,c10,c11,c12,c13,c14,c15,c16,c17,c18,c19,c20,c21,c22,c23,c24,c25,c26,c27,c28,c29,c30,c31,c32,c33,c34,c35,c36,c37,c38,c39,c40,c41,c42,c43,c44,c45,c46,u47,u48,u49,u50,u51,u52,u53,u54,u55,c56,c57,c58,c59,c60,c61,c62,c63,c64,c65,c66,c67,c68,c69,c70,c71,c72,c73,c74,c75],[]⟩ W'))
  (hQ:∀ c (a:Act) (d:Tmp) (v:Value) w,Q (.panic c) (a.put (some d) v) w->Q (.panic c) a w) (Tj:¬ LetsOut Q) :
  (Gz Tryz.f72 9).wpIn (Fence.wide.inRound lr) nn prog Q ⟨#[c0,.pointer (some Bt),c2,c3,.pointer (some Bl),c5,.int .i64 (k:Int),.pointer (some Br),c8,c9,c10,c11,c12,c13,c14,c15,c16,c17,c18,c19,c20,c21,c22,c23,c24,c25,c26,c27,c28,c29,c30,c31,c32,c33,c34,c35,c36,c37,c38,c39,c40,c41,c42,c43,c44,c45,c46,c47,c48,c49,c50,c51,c52,c53,c54,c55,c56,c57,c58,c59,c60,c61,c62,c63,c64,c65,c66,c67,c68,c69,c70,c71,c72,c73,c74,c75],[]⟩ w:=by
 conv=>arg 4;whnf
 have MC:=aq ht;have hbl:=aq hl;have hbr:=aq hr;have HO:=aa hO;clear hO;have HL:=aa hl;have hne:=HO.o.notT hl Tcg;have B2:=aa kf;clear kf;have HD:=aa hd;clear hd;have HS:Hid (∀ w':World,Below w.heap.size w w'->w'.heap[Bl]?=some (.cells #[v] 67 (0,0))/\w'.heap[Bt]?=some (.cells (Taf g a r pv) 120 (0,0))/\w'.heap[Br]?=some (.cells #[.int .i64 p.1,.int .i64 p.2] 62 (0,0))):=aa fun w' e=>⟨(e.block _ hbl).trans hl,(e.block _ MC).trans ht,(e.block _ hbr).trans hr⟩;clear ht hl hr;refine Eb (fun w'=>w'.heap[Bl]?=some (.cells #[v] 67 (0,0))/\w'.heap[Bt]?=some (.cells (Taf g a r pv) 120 (0,0))/\w'.heap[Br]?=some (.cells #[.int .i64 p.1,.int .i64 p.2] 62 (0,0))) 8 [] Tcf Tj Tcf (HS.o _ (bj _ _).drew) (fun hHeld=>?_)
 (refine o7 (i:=0) (v:=?_) rfl rfl Tcf (fun _ _ _ h=>hQ _ _ _ _ _ h) (Or.inl ⟨Tci,?_⟩) hHeld ?_;rotate_left;(intro w hSw;have l0:=cz hSw.1 0 _ rfl;clear hSw;go_simp;(try (with_reducible rfl)));(try simp only [aS]))
 (refine o7 (i:=1) (v:=?_) rfl rfl Tcf (fun _ _ _ h=>hQ _ _ _ _ _ h) (Or.inl ⟨Tci,?_⟩) hHeld ?_;rotate_left;(intro w hSw;have s0:=cz hSw.2.1 0 _ rfl;have s1:=cz hSw.2.1 1 _ rfl;have s2:=cz hSw.2.1 2 _ rfl;have s3:=cz hSw.2.1 3 _ rfl;have s4:=cz hSw.2.1 4 _ rfl;have s5:=cz hSw.2.1 5 _ rfl;have s6:=cz hSw.2.1 6 _ rfl;have s7:=cz hSw.2.1 7 _ rfl;have s8:=cz hSw.2.1 8 _ rfl;have s9:=cz hSw.2.1 9 _ rfl;have s10:=cz hSw.2.1 10 _ rfl;have s11:=cz hSw.2.1 11 _ rfl;have s12:=cz hSw.2.1 12 _ rfl;have s13:=cz hSw.2.1 13 _ rfl;have s14:=cz hSw.2.1 14 _ rfl;have s15:=cz hSw.2.1 15 _ rfl;have s16:=cz hSw.2.1 16 _ rfl;clear hSw;go_simp;(try (with_reducible rfl)));(try simp only [aS]))
 refine cH hQ 2 hHeld ?_;try simp only [ak];refine cH hQ 3 hHeld ?_;try simp only [ak]
 (refine o7 (i:=4) (v:=?_) rfl rfl Tcf (fun _ _ _ h=>hQ _ _ _ _ _ h) (Or.inl ⟨Tci,?_⟩) hHeld ?_;rotate_left;(intro w hSw;have r0:=cz hSw.2.2 0 _ rfl;clear hSw;go_simp;(try (with_reducible rfl)));(try simp only [aS]))
 refine lR 5 fun K hK=>?_;go_simp;refine (Hg (ok:=ok) g a r pv k p.1 d w.drew ((ck.moves aO.moves).mv ⟨bk _,fun b _ hb=>⟨hb,rfl⟩⟩ B2.o) HD.o CD).mono ?_;rintro e w6 ⟨rfl,hb6⟩;have hb6':Below w.heap.size w w6:=⟨hb6.os,hb6.tape,hb6.output,hb6.size,hb6.block⟩;refine hK.o _ _ (HS.o _ hb6') ?_;clear hK K hHeld;have qs:=aa hb6';clear hb6 hb6';have hHeld:=HS.o _ qs.o;have G2:=ae w6 (.cells (Tau d.name p.1) 60);have pL:=aa (qs.o.trans (G2.mono qs.o.size));have HOA:=aa ((HO.o.below qs.o).below G2);have HN6:=aa (b9 w6 (.cells (Tau d.name p.1) 60));clear G2;refine lR 6 fun K hK=>?_;go_simp;refine hK.o _ _ (HS.o _ pL.o) ?_;clear hK K hHeld;have hHeld:=HS.o _ pL.o;have ag5:=qs.o.size;generalize hW7:World.alloc w6 _=w7 at *;generalize hB7:w6.heap.size=b7 at *;clear hW7 hB7;have hbB:=ae w7 (.cells #[.slice (some b7) 1 1] 57);have HBB:=aa (pL.o.trans (hbB.mono pL.o.size));have HOB:=aa (HOA.o.below hbB);have HA7:Hid (iC B (w7.alloc (.cells #[.slice (some b7) 1 1] 57)) (.slice (some b7) 1 1) [⟨false,d.name,p.1⟩]):=aa ((iC.one (x:=⟨false,d.name,p.1⟩) HN6.o Tcd).below hbB);have Sx:=aa (b9 w7 (.cells #[.slice (some b7) 1 1] 57));clear hbB;refine lR 7 fun K hK=>?_;go_simp;refine hK.o _ _ (HS.o _ HBB.o) ?_;clear hK K hHeld;have ai1:=pL.o.size;generalize hW8:World.alloc w7 _=w8 at *;generalize hB8:w7.heap.size=b8 at *;clear hW8;have n0:=cz Sx.o 0 _ rfl;refine aP Tcf rfl ?_;simp only [cQ,cL,km]
 go_wp2_with (at_builtin;refine Ha rfl _ _ rfl B v l (.slice (some b7) 1 1) [⟨false,d.name,p.1⟩] rfl HOB.o HA7.o b8 1 rfl ?d1 ?d2 ?d3 ?_)
 all_goals first | (case d1=>exact cz Sx.o 0 _ rfl) | (case d2=>omega) | (case d3=>(have:=HBB.o.size;omega)) | skip
 intro v' w3 ho hb3 YY tR;obtain ⟨vp3,vc3,rfl,-,-⟩:=ho.cap;rw [cD,A4] at ho;have CT:∀ j,j<w.heap.size->v.ownBlock≠some j->w3.heap[j]?=w.heap[j]?:=fun j hj hn=>(tR j (by have:=HBB.o.size;omega) hn).trans (HBB.o.block j hj);have hl3:=(CT Bl hbl hne).trans HL.o;have z0:=cz hl3 0 _ rfl;have zf:=uy hl3;have QP:=aa hl3;have HOW:=aa ho;have HK3:=aa CT;have PS:Hid (w.heap.size<=w3.heap.size/\w3.os=w.os/\w3.tape=w.tape/\w3.output=w.output):=aa ⟨by have:=HBB.o.size;have:=hb3.size;omega,hb3.os.trans HBB.o.os,hb3.tape.trans HBB.o.tape,hb3.output.trans HBB.o.output⟩;clear ho hb3 YY tR hl3 CT n0;go_wp2;refine HK.o _ _ _ _ _ _ _ _ _ _ _ ?_ (block_setCell (i:=0) _ QP.o) (fun b hb h1 h2=>(bw _ _ _ _ h1).trans (HK3.o b hb h2)) (by simp [World.setCell];exact PS.o.1) PS.o.2.1 PS.o.2.2.1 PS.o.2.2.2;refine HOW.o.blk Tcq fun k cs t z _ hk ht=>bw _ _ _ _ fun e'=>?_;subst e';rw [QP.o] at hk;injection hk with hk
 exact TbB
end Go.Proofs.YtjdfihglehfelaaGreatDoor
namespace Go.Proofs.YtjdfihglehfelaaGreatDoor
open Go.Proofs.Tryz
open Go.RowKit Go.Maps Go.Shelf
attribute [local go_sem] Oper.semAt_some
def arP (g:af)(p:Nat × Int):aR:=⟨false,(g.Gb.getD p.1 gT).name,p.2⟩
def Zw (g:af)(p:Nat × Int):List aR:=[arP g p]
def kt (g:af)(r:aY)(k:Nat):ByteArray:=jU g r (k:Int)
def rE (r:aY):Nat:=(r.Gi*r.Gh).toNat
noncomputable def DV (g:af)(r:aY)(l:List (Nat × (Int × Int))):List (Nat × Int):=Jk r.Gc (r.Gg == 5) (kt g r) (rE r) l
variable {w W W' W6:World}{v:Value}{xs:List (List (Int × Int))}{g:af}{a:bN}{r:aY}{px:Option Addr}{cx b0:Nat}{s:List (Nat × Int)}{st n:Int}
open Classical in
noncomputable def Hd (cl:Nat->ByteArray)(s:List (Nat × Int))(key:Value):Option Value:=if ∃ p∈s,key=.string (cl p.1) then some (.bool true) else none
theorem JD (cl:Nat->ByteArray)(s:List (Nat × Int))(c:ByteArray):∃ mem:Bool,(mem=true↔c∈s.map fun p=>cl p.1)/\(Hd cl s (.string c)).getD (.bool false)=.bool mem:=by
 unfold Hd
 by_cases h:c∈s.map fun p=>cl p.1
 ·refine ⟨true,⟨fun _=>h,fun _=>rfl⟩,?_⟩
  rw [aw]
  ·rfl
  ·obtain ⟨p,hp,e⟩:=List.mem_map.1 h
   exact ⟨p,hp,TcY⟩
 ·refine ⟨false,⟨(fun e=>nomatch e),fun q=>absurd q h⟩,?_⟩
  rw [bh]
  ·rfl
  ·rintro ⟨p,hp,e⟩
   exact h (List.mem_map.2 ⟨p,hp,Tc7⟩)
theorem IL (cl:Nat->ByteArray)(s:List (Nat × Int))(d:Nat)(st:Int)(key:Value):Hd cl (s++[(d,st)]) key=upd (Hd cl s) (.string (cl d)) (.bool true) key:=by
 by_cases hk:key=.string (cl d)
 ·subst hk
  rw [upd_same];unfold Hd;rw [aw ⟨(d,st),Tce,rfl⟩]
 ·rw [bP hk]
  unfold Hd
  congr 1
  refine propext ⟨?_,?_⟩
  ·rintro ⟨q,hq,k⟩
   rcases List.mem_append.1 hq with hq | hq
   ·exact ⟨q,hq,k⟩
   ·obtain rfl:=List.mem_singleton.1 hq
    exact absurd k hk
  ·rintro ⟨q,hq,k⟩
   exact ⟨q,ju _ hq,k⟩
theorem mi.notObj {B k:Nat}{xs:List (List aR)}{o:Obj}(h:mi w B v xs)(hk:w.heap[k]?=some o)(ho:o.isCells=false):v.ownBlock≠some k:=fun e=>by
 obtain ⟨_,hw,_⟩:=h;rcases hw.2 with ⟨rfl,_⟩ | ⟨g,cap,cur,rfl,_,gA,_⟩
 ·cases e
 ·obtain rfl:g=k:=by injection e
  rw [hk] at gA;injection gA with gA
  subst gA;cases ho
structure PrS (g:af)(a:bN)(r:aY)(px:Option Addr)(cx b0:Nat)(xs:List (List (Int × Int)))(v:Value)(s:List (Nat × Int))(W:World):Prop where
 l:W.heap[b0+1]?=some (.cells #[v] 67 (0,0))
 m:W.heap[b0+3]?=some (.cells #[.map (some (b0+2))] 130 (0,0))
 o:mi W (b0+5) v (s.map (Zw g))
 f:bi prog 9 W (b0+2) s.length (Hd (kt g r) s)
 t:W.heap[b0]?=some (.cells (Tac g a r xs.length px cx) 120 (0,0))
 n:s.length<=rE r
theorem PrS.mv (h:PrS g a r px cx b0 xs v s W)(hz:W.heap.size<=W'.heap.size)(hb:∀ k,k<b0+5->W'.heap[k]?=W.heap[k]?)(hk:∀ (k:Nat) (cs:Array Value) (t:TypeId) (z:Nat × Nat),b0+5<=k->W.heap[k]?=some (.cells cs t z)->(t=57/\v.ownBlock=some k\/t=60)->W'.heap[k]?=W.heap[k]?):PrS g a r px cx b0 xs v s W' :=
 ⟨(hb _ Tcd).trans h.l,(hb _ Tcd).trans h.m,h.o.blk hz hk,h.f.block (hb _ Tcd),(hb _ Tcd).trans h.t,h.n⟩
theorem PrS.below (h:PrS g a r px cx b0 xs v s W)(hb:Below W.heap.size W W')(hz:b0+5<=W.heap.size):PrS g a r px cx b0 xs v s W' :=
 h.mv hb.size (fun k hk=>hb.block k Tcd) fun k cs t z _ hk _=>hb.block k (aq hk)
def PrI (g:af)(a:bN)(r:aY)(px:Option Addr)(cx b0:Nat)(xs:List (List (Int × Int)))(W6:World)(pre:List (GN xs))(W:World):Prop:=∃ v,PrS g a r px cx b0 xs v (DV g r (pre.map (·.1))) W/\Below b0 W6 W/\W6.heap.size<=W.heap.size/\pre.length<=(iU xs).length
theorem PrI.own (hz6:W6.heap.size=b0+5):OwnFrom W6.heap.size (PrI g a r px cx b0 xs W6):=by
 rintro pre W W' row ⟨v,h1,h2,h3,h4⟩ hg hr;exact ⟨v,h1.mv hg.size (fun k hk=>hg.block k Tcd (fun e=>by have:=(hr k e.symm).1;omega)) (fun k cs t z _ hk _=>(xu hg hr hk).trans hk.symm),h2.grown hg (by have:=h2.size;omega) (fun k e=>by have:=(hr k e).1;omega),cA h3 hg.size,h4⟩
def PrL (g:af)(a:bN)(r:aY)(px:Option Addr)(cx b0:Nat)(xs:List (List (Int × Int)))(W6 Wb:World)(Br:Nat)(x:Nat × (Int × Int))(s0:List (Nat × Int))(W:World):Prop:=∃ (st n:Int) (s:List (Nat × Int)) (v:Value),W.heap[Br]?=some (.cells #[.int .i64 st,.int .i64 n] 62 (0,0))/\PrS g a r px cx b0 xs v s W/\Below b0 Wb W/\KeepsFrom W6.heap.size Wb W/\(0<=st/\0<=n/\st+n<=4096) /\
 Gp r.Gc (r.Gg == 5) (kt g r) x.1 (rE r - s.length) st n s=Il r.Gc (r.Gg == 5) (kt g r) (rE r) s0 x
def Gx (w:World)(b:Nat):Nat:=match w.cell? (Tab b 1) with
 | some (.int _ n)=>n.toNat
 | _=>0
theorem G7 {b:Nat}{t:TypeId}{z:Nat × Nat}(h:w.heap[b]?=some (.cells #[.int .i64 st,.int .i64 n] t z)):Gx w b=n.toNat:=by
 unfold Gx;rw [cz h 1 _ rfl]
theorem PrL.step {Wb:World}{Br:Nat}{x:Nat × (Int × Int)}{s0:List (Nat × Int)}{W8 W9:World}{v':Value}{d:az}
  (hz6:W6.heap.size=b0+5) (Rz:W6.heap.size<=Br) (hq:1<=r.Gc) (sB:W.heap[Br]?=some (.cells #[.int .i64 st,.int .i64 n] 62 (0,0))) (hS:PrS g a r px cx b0 xs v s W) (hB:Below b0 Wb W) (hK:KeepsFrom W6.heap.size Wb W) (hn:0<=st/\0<=n/\st+n<=4096)
  (he:Gp r.Gc (r.Gg == 5) (kt g r) x.1 (rE r - s.length) st n s=Il r.Gc (r.Gg == 5) (kt g r) (rE r) s0 x) (hd:g.Gb[x.1]?=some d)
  (hc1:r.Gc<=n) (hc2:s.length<rE r) (hc3:(r.Gg == 5)=true\/kt g r x.1 ∉ s.map fun p=>kt g r p.1) (Ph:b0+5<=W.heap.size)
  (h8m:bi prog 9 W8 (b0+2) (s.length+1) (upd (Hd (kt g r) s) (.string (kt g r x.1)) (.bool true))) (h8g:W.grownBy W8 (some (b0+2))) (h8z:W8.heap.size=W.heap.size)
  (h9o:mi W9 (b0+5) v' (s.map (Zw g)++[[⟨false,d.name,st⟩]])) (h9l:W9.heap[b0+1]?=some (.cells #[v'] 67 (0,0))) (h9k:∀ b,b<W8.heap.size->b≠b0+1->v.ownBlock≠some b->W9.heap[b]?=W8.heap[b]?) (h9z:W8.heap.size<=W9.heap.size) (h9a:W9.os=W8.os) (h9b:W9.tape=W8.tape) (h9c:W9.output=W8.output) :
  W9.heap[Br]?=some (.cells #[.int .i64 st,.int .i64 n] 62 (0,0))/\W9.heap[b0]?=some (.cells (Tac g a r xs.length px cx) 120 (0,0)) /\
  PrL g a r px cx b0 xs W6 Wb Br x s0 ((W9.setCell Br (.int .i64 (st+r.Gc))).setCell (Tab Br 1) (.int .i64 (n - r.Gc))):=by
 have hvg:∀ k,v.ownBlock=some k->b0+5<=k:=fun k e=>(hS.o.ge e).1;have h8b:∀ k,k<W.heap.size->k≠b0+2->W8.heap[k]?=W.heap[k]?:=fun k hk hne=>h8g.block k hk (fun e=>hne TcX);have tR:v.ownBlock≠some Br:=hS.o.notT sB Tcg;have hbr:=aq sB;have k9:∀ k,k<W.heap.size->k≠b0+2->k≠b0+1->v.ownBlock≠some k->W9.heap[k]?=W.heap[k]?:=fun k h1 h2 h3 h4=>(h9k k Tcd h3 h4).trans (h8b k h1 h2);have hr9:=(k9 Br hbr Tcd Tcd tR).trans sB;have ht9:=(k9 b0 Tcd Tcd Tcd (fun e=>by have:=hvg _ e;omega)).trans hS.t;refine ⟨hr9,ht9,?_⟩;have hs0:∀ (u y:Value) k,k≠Br->((W9.setCell Br u).setCell (Tab Br 1) y).heap[k]?=W9.heap[k]?:=fun u y k e=>(bw _ _ _ _ e).trans (bw _ _ _ _ e);have hsz:∀ u y:Value,((W9.setCell Br u).setCell (Tab Br 1) y).heap.size=W9.heap.size:=fun u y=>by simp [World.setCell]
 have pC:∀ u y:Value,((W9.setCell Br u).setCell (Tab Br 1) y).heap[Br]?=some (.cells #[u,y] 62 (0,0)):=fun u y=>block_setCell (cs:=#[u,_]) (i:=1) y (block_setCell (cs:=#[_,_]) (i:=0) u hr9);generalize hu:Value.int .i64 (st+r.Gc)=u;generalize hy:Value.int .i64 (n - r.Gc)=y;have PD:Below b0 W ((W9.setCell Br u).setCell (Tab Br 1) y):=⟨h9a.trans h8g.os,h9b.trans h8g.tape,h9c.trans h8g.output,by rw [hsz];omega,fun k hk=>(hs0 u y k Tcd).trans (k9 k Tcd Tcd Tcd (fun e=>by have:=hvg _ e;omega))⟩;refine ⟨st+r.Gc,n - r.Gc,s++[(x.1,st)],v',by rw [hu,hy];exact pC u y,⟨?_,?_,?_,?_,?_,?_⟩,hB.trans PD,hK.trans ⟨by rw [hsz];omega,fun k o hk hk1 hk2=>?_⟩,Tcd,?_⟩
 ·exact (hs0 u y _ Tcd).trans h9l
 ·exact (hs0 u y _ Tcd).trans ((k9 _ Tcd Tcd Tcd (fun e=>by have:=hvg _ e;omega)).trans hS.m)
 ·rw [gl,List.map_singleton]
  have ha:Zw g (x.1,st)=[⟨false,d.name,st⟩]:=by unfold Zw arP;rw [List.getD_eq_getElem?_getD,hd];rfl
  rw [ha];refine h9o.blk (by rw [hsz];exact bk _) fun k cs t z _ hk ht=>hs0 u y k fun e=>?_;subst e;rw [hr9] at hk;injection hk with hk
  exact TbB
 ·rw [cD,A4]
  refine (h8m.block ?_).congr fun key _ _=>IL _ _ _ _ _;exact (hs0 u y _ Tcd).trans (h9k _ Tcd Tcd (fun e=>by have:=hvg _ e;omega))
 ·exact (hs0 u y _ Tcd).trans ht9
 ·rw [cD,A4]
  omega
 ·have hne:k≠Br:=fun e=>by
   subst e;rw [sB] at hk1;injection hk1 with hk1
   subst hk1;cases hk2
  have Ol:=lZ hk1;exact (hs0 u y k hne).trans ((k9 k Ol Tcd Tcd (hS.o.notObj hk1 hk2)).trans hk1)
 ·rw [<- he]
  exact (JB hc1 hc2 hc3).symm
end Go.Proofs.YtjdfihglehfelaaGreatDoor
