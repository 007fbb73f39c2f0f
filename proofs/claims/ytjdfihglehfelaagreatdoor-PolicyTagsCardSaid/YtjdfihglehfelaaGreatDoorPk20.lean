/- Lemmas: ModI. -/
import Derived.Test.YtjdfihglehfelaaGreatDoorPk18
import Derived.Test.YtjdfihglehfelaaGreatDoorPk19
set_option maxRecDepth 100000
set_option maxHeartbeats 32000000
set_option linter.all false
namespace Go.Proofs.YtjdfihglehfelaaGreatDoor
open Go.RowKit Go.Maps Go.Shelf
structure wM (s:aB):Prop where
 l0:1≤s.length
 l1:s.length≤32768
 ar:s.Ga.length≤6
 p5:s.kind=5→2≤s.Ga.length
 p7:s.kind=7→3≤s.Ga.length
def fI (g:af)(s:aB)(r:aR):Bool:=r.vol||(decide (0≤r.start)&&decide (r.start≤((bH g.Gb r.on).getD gT).Gc)&&decide (iB s.kind s.length s.Ga.length≤((bH g.Gb r.on).getD gT).Gc - r.start))
def dh (g:af)(nm:ByteArray):Bool:=eZ ((aM g.F9 nm).getD eY) == 6||eZ ((aM g.F9 nm).getD eY) == 5
def mM (g:af)(v:ay)(s:aB):Int :=
 if jw g s=false then 12 else if s.Ga.all (fI g s)=false then 1 else if jS v s=false then 10 else if s.kind=6∧¬ eZ ((aM g.F9 s.pool).getD eY)=5 then 17
 else if (dD s false).any (dh g)=true then 17 else 0
theorem zV {k l:Int}{n:Nat}(h0:0≤l):0≤iB k l n∧iB k l n≤l:=by
 unfold iB;split
 ·exact ⟨Int.ediv_nonneg h0 (by omega),Int.ediv_le_self _ h0⟩
 ·omega
theorem Da {Gb:List az}{nm:ByteArray}(h:∀ d∈Gb,0≤d.Gc∧d.Gc≤1000000):0≤((bH Gb nm).getD gT).Gc∧((bH Gb nm).getD gT).Gc≤1000000:=by
 cases hf:bH Gb nm with
 | none=>simp [gT]
 | some d=>exact h d (List.mem_of_find?_eq_some hf)
theorem pK {ok:Nat→Prop}(g:af)(a:bN)(bc Bc:Nat)(v:ay)(s:aB)(u1 u2:List Value)(w:World)(hck:gY w bc g a)(hcc:w.cell? ⟨Bc,0,none⟩=some (.pointer (some ⟨bc,0,none⟩)))(hbc:Bc<w.heap.size)(hg:dN ok w g a)(hz:GSz g)(hde:∀ d∈g.Gb,0≤d.Gc∧d.Gc≤1000000)
  (hv:aN ok w u1 v) (hs:bC ok w u2 s) (hf:wM s) (hvs:qD v) (hS:Sfx w) (hvn:v.name.size≤1000000000) :
  Calls Tryz.prog 142 #[.agg u1.toArray,.agg u2.toArray,.pointer (some ⟨Bc,0,none⟩)] w fun e w'=>e=.returned (.int .i64 (mM g v s))∧Below w.heap.size w w':=by
 have hbcl:=hck.lt;have HVV:=aa hv;have HSV:=aa hs;obtain ⟨tv,sv,rfl,htr,hsr⟩:=hv;obtain ⟨tp,tc,rfl,_,_⟩:=htr.cap;obtain ⟨sp,sc,rfl,_,_⟩:=hsr.cap;obtain ⟨av,stv,rfl,har,hst⟩:=hs;obtain ⟨ap,ac,rfl,hac1,hac2⟩:=har.cap;obtain ⟨stp,stc,rfl,hsc1,hsc2⟩:=hst.cap;have HAR:=aa har;clear htr hsr har hst;have HCK:=aa hck;obtain ⟨sm,hblk,_⟩:=hck;have HCB:Hid (bX w bc sm g a):=aa hblk;clear hblk;have HG:=aa hg;clear hg;have HZ:=aa hz;clear hz;have HDE:=aa hde;clear hde;have HSX:=aa hS;clear hS;have HFM:=aa hf;have hl0:=hf.l0;have hl1:=hf.l1;have har6:=hf.ar;clear hf;have HCC:=aa hcc;clear hcc;have hb2:=(ae w (.cells #[.string v.name,.int .u64 v.id,.bool v.hidden,.bool v.ro,.slice tp v.tags.length tc,.slice sp v.Gf.length sc] 55)).trans ((ae (w.alloc (.cells #[.string v.name,.int .u64 v.id,.bool v.hidden,.bool v.ro,.slice tp v.tags.length tc,.slice sp v.Gf.length sc] 55)) (.cells #[.int .i64 s.start,.int .i64 s.length,.int .i64 s.kind,.slice ap s.Ga.length ac,.int .i64 s.chunk,.slice stp s.stale.length stc,.string s.log,.string s.pool,.int .i64 s.device,.int .i64 s.mode,.int .i64 s.done] 79)).mono (ae w _).size);have h0:((w.alloc (.cells #[.string v.name,.int .u64 v.id,.bool v.hidden,.bool v.ro,.slice tp v.tags.length tc,.slice sp v.Gf.length sc] 55)).alloc (.cells #[.int .i64 s.start,.int .i64 s.length,.int .i64 s.kind,.slice ap s.Ga.length ac,.int .i64 s.chunk,.slice stp s.stale.length stc,.string s.log,.string s.pool,.int .i64 s.device,.int .i64 s.mode,.int .i64 s.done] 79)).heap[w.heap.size]?=some (.cells #[.string v.name,.int .u64 v.id,.bool v.hidden,.bool v.ro,.slice tp v.tags.length tc,.slice sp v.Gf.length sc] 55 (0,0)):=(Below.heap_alloc _ _ _ (by simp)).trans (heap_alloc_new w _)
 have h1:((w.alloc (.cells #[.string v.name,.int .u64 v.id,.bool v.hidden,.bool v.ro,.slice tp v.tags.length tc,.slice sp v.Gf.length sc] 55)).alloc (.cells #[.int .i64 s.start,.int .i64 s.length,.int .i64 s.kind,.slice ap s.Ga.length ac,.int .i64 s.chunk,.slice stp s.stale.length stc,.string s.log,.string s.pool,.int .i64 s.device,.int .i64 s.mode,.int .i64 s.done] 79)).heap[w.heap.size+1]?=some (.cells #[.int .i64 s.start,.int .i64 s.length,.int .i64 s.kind,.slice ap s.Ga.length ac,.int .i64 s.chunk,.slice stp s.stale.length stc,.string s.log,.string s.pool,.int .i64 s.device,.int .i64 s.mode,.int .i64 s.done] 79 (0,0)):=by
  have:=heap_alloc_new (w.alloc (.cells #[.string v.name,.int .u64 v.id,.bool v.hidden,.bool v.ro,.slice tp v.tags.length tc,.slice sp v.Gf.length sc] 55)) (.cells #[.int .i64 s.start,.int .i64 s.length,.int .i64 s.kind,.slice ap s.Ga.length ac,.int .i64 s.chunk,.slice stp s.stale.length stc,.string s.log,.string s.pool,.int .i64 s.device,.int .i64 s.mode,.int .i64 s.done] 79);rw [World.size_alloc] at this;exact this
 have HB2:=aa hb2;clear hb2;have H0:=aa h0;clear h0;have H1:=aa h1;clear h1;have c0:=(HB2.out.cell (p:=⟨Bc,0,none⟩) hbc).trans HCC.out;have HF:Hid (mM g v s=_):=aa (mM.eq_1 g v s);go_enter Tryz.func142,Tryz.ntmps142
 go_wp2_with fail
 generalize hW2:World.alloc (World.alloc w _) _=W2 at *;clear hW2 c0;refine (vC (ok:=ok) g a bc s _ _ (HCK.out.below HB2.out) (HG.out.mv (Mv.of HB2.out)) HZ.out (bC.moves.mv (Mv.of HB2.out) HSV.out) (by omega)).mono ?_;rintro e w3 ⟨rfl,hb3⟩;have HB3:=aa (HB2.out.trans (hb3.mono HB2.out.size));have H03:=aa ((hb3.block _ (lt_of_block H0.out)).trans H0.out);have H13:=aa ((hb3.block _ (lt_of_block H1.out)).trans H1.out);clear hb3 H0 H1;generalize hex:jw g s=ex at *;clear hex
 have segL:∀ wr:World,wr.heap[w.heap.size+1]?=some (.cells #[.int .i64 s.start,.int .i64 s.length,.int .i64 s.kind,.slice ap s.Ga.length ac,.int .i64 s.chunk,.slice stp s.stale.length stc,.string s.log,.string s.pool,.int .i64 s.device,.int .i64 s.mode,.int .i64 s.done] 79 (0,0))→∀ (j:Nat) (z:Value),[.int .i64 s.start,.int .i64 s.length,.int .i64 s.kind,.slice ap s.Ga.length ac,.int .i64 s.chunk,.slice stp s.stale.length stc,.string s.log,.string s.pool,.int .i64 s.device,.int .i64 s.mode,.int .i64 s.done][j]?=some z→wr.cell? ⟨w.heap.size+1,j,none⟩=some z:=fun wr h j z hz=>by
  simp only [World.cell?,h];simpa using hz
 have volL:∀ wr:World,wr.heap[w.heap.size]?=some (.cells #[.string v.name,.int .u64 v.id,.bool v.hidden,.bool v.ro,.slice tp v.tags.length tc,.slice sp v.Gf.length sc] 55 (0,0))→∀ (j:Nat) (z:Value),[.string v.name,.int .u64 v.id,.bool v.hidden,.bool v.ro,.slice tp v.tags.length tc,.slice sp v.Gf.length sc][j]?=some z→wr.cell? ⟨w.heap.size,j,none⟩=some z:=fun wr h j z hz=>by
  simp only [World.cell?,h];simpa using hz
 have SL:=aa segL;clear segL;have VL:=aa volL;clear volL;cases ex with
 | false =>
  have HR:Hid (mM g v s=12):=aa (by rw [HF.out,if_pos rfl]);go_wp2;go_ret;exact ⟨bB HR.out.symm,HB3.out⟩
 | true =>
  rw [if_neg (by simp)] at HF;have s3:=SL.out w3 H13.out 3 _ rfl;go_wp2;clear s3
  go_loopw [23] (fun i wr=>∃ k:Nat,k≤s.Ga.length∧i=.int .i64 k∧(∀ j r,j<k→s.Ga[j]?=some r→fI g s r=true)∧Below w.heap.size w wr∧wr.heap[w.heap.size]?=some (.cells #[.string v.name,.int .u64 v.id,.bool v.hidden,.bool v.ro,.slice tp v.tags.length tc,.slice sp v.Gf.length sc] 55 (0,0))∧wr.heap[w.heap.size+1]?=some (.cells #[.int .i64 s.start,.int .i64 s.length,.int .i64 s.kind,.slice ap s.Ga.length ac,.int .i64 s.chunk,.slice stp s.stale.length stc,.string s.log,.string s.pool,.int .i64 s.device,.int .i64 s.mode,.int .i64 s.done] 79 (0,0))) (fun i _=>s.Ga.length - (intOf i).toNat)
  case atStart=>exact ⟨0,Nat.zero_le _,rfl,fun j r hj=>by omega,HB3.out,H03.out,H13.out⟩
  case round =>
   clear H03 H13 HB3;obtain ⟨k,hk,rfl,hall,hB,hx0,hx1⟩:=hrel;have HALL:=aa hall;clear hall;have H03:=aa hx0;clear hx0;have H13:=aa hx1;clear hx1
   by_cases hlt:k<s.Ga.length
   ·obtain ⟨r,hr⟩:=aj s.Ga k hlt
    obtain ⟨b,off,us,rfl,_,hbw,hul,hvs',hcv⟩:=HAR.out.elem hr;obtain rfl:us=_:=hvs';have hbk:wr.heap[b]?=w.heap[b]?:=hB.block b hbw;have q0:=bK hbk (hcv 0 _ rfl);have q1:=ai hbk (hcv 1 _ rfl);have q2:=ai hbk (hcv 2 _ rfl);have HR:=aa hr;clear hr;clear hcv hul hbk
    go_upto_region 6 with (fail)
    clear q0 q1 q2;have HSB:=aa (heap_alloc_new wr (.cells #[.bool r.vol,.string r.on,.int .i64 r.start] 60));have HB5:=aa (hB.trans ((ae wr (.cells #[.bool r.vol,.string r.on,.int .i64 r.start] 60)).mono hB.size));have H05:=aa ((Below.heap_alloc wr (.cells #[.bool r.vol,.string r.on,.int .i64 r.start] 60) _ (lt_of_block H03.out)).trans H03.out);have H15:=aa ((Below.heap_alloc wr (.cells #[.bool r.vol,.string r.on,.int .i64 r.start] 60) _ (lt_of_block H13.out)).trans H13.out);have hwz:=hB.size;generalize hW5:World.alloc wr _=W5 at *;generalize hBs:wr.heap.size=Bs at *;clear hW5;refine pI (ok:=ok) _ _ _ _ _ _ _ _ _ _ _ _ _ _ _ _ _ _ _ _ _ _ _ _ _ _ _ _ _ _ _ _ _ _ _ _ _ _ _ _ _ _ _ _ _ _ _ _ _ _ _ _ _ _ _ _ _ _ _ _ _ _ _ _ _ _ _ _ _ _ _ _ _ _ _ _ _ _ _ _ _ _ _ _ _ _ _ _ _ _ _ _ _ _ _ _ _ _ _ _ _ _ _ _ _ _ _ W5 g a bc sm Bs r.on Bc (Nat.lt_of_lt_of_le hbc HB5.out.size) ((HB5.out.cell (p:=⟨Bc,0,none⟩) hbc).trans HCC.out) ((HB5.out.block bc hbcl).trans HCB.out) (by simp [World.cell?,HSB.out]) (lt_of_block HSB.out) (HG.out.mv (Mv.of HB5.out)) HZ.out _ _ rfl rfl (aa ?_) (fun _ _ _ _ _ h=>h);intro tp8 tc8 b8 W7 hb7 hb8 hblk8 _;have HB7:=aa (HB5.out.trans (hb7.mono HB5.out.size));have H07:=aa ((hb7.block _ (lt_of_block H05.out)).trans H05.out);have H17:=aa ((hb7.block _ (lt_of_block H15.out)).trans H15.out);have hsb7:=(hb7.block _ (lt_of_block HSB.out)).trans HSB.out;have v0:W7.cell? ⟨Bs,0,none⟩=some (.bool r.vol):=by simp [World.cell?,hsb7]
    have v2:W7.cell? ⟨Bs,2,none⟩=some (.int .i64 r.start):=by simp [World.cell?,hsb7]
    have d3:W7.cell? ⟨b8,3,none⟩=some (.int .i64 ((bH g.Gb r.on).getD gT).Gc):=by simp [World.cell?,hblk8]
    have hdb:=Da (nm:=r.on) HDE.out;clear hb7 hb8 hblk8 hsb7 HSB HB5 H05 H15
    have HBAD:Hid (fI g s r=false→mM g v s=1):=aa fun h=>by
     rw [HF.out,if_pos];rw [List.all_eq_false];exact ⟨r,List.mem_of_getElem? HR.out,by simp [h]⟩
    have HGOOD:Hid (fI g s r=true→∀ j y,j<k+1→s.Ga[j]?=some y→fI g s y=true):=aa fun h j y hj hy=>by
     by_cases hjk:j=k
     ·subst hjk
      rw [HR.out] at hy;cases hy
      exact h
     ·exact HALL.out j y (by omega) hy
    have HAI:Hid (fI g s r=_):=aa (fI.eq_1 g s r);generalize (bH g.Gb r.on).getD gT=d at *;generalize (bH g.Gb r.on).isSome=dis at *;have hl7:=lt_of_block H17.out;cases hrv:r.vol with
    | true =>
     rw [hrv] at v0;have HOK:Hid (fI g s r=true):=aa (by rw [HAI.out,hrv];rfl)
     go_upto_region 7 with (fail)
     go_quiet (fail);go_wp2;go_roundw
     case rel=>exact ⟨k+1,by omega,by go_num,HGOOD.out HOK.out,aT HB7.out _,H07.out,H17.out⟩
     case measure=>simp [intOf];omega
    | false =>
     rw [hrv] at v0
     by_cases c0:0≤r.start
     ·by_cases c1:r.start≤d.Gc
      ·have y:=SL.out W7 H17.out
       have s0:=y 0 _ rfl;have s1:=y 1 _ rfl;have s2:=y 2 _ rfl;have s3:=y 3 _ rfl;have s4:=y 4 _ rfl;have s5:=y 5 _ rfl;have s6:=y 6 _ rfl;have s7:=y 7 _ rfl;have s8:=y 8 _ rfl;have s9:=y 9 _ rfl;have s10:=y 10 _ rfl;have q0:decide (r.start<0)=false:=by simp;omega
       have q1:decide (d.Gc<r.start)=false:=by simp;omega
       have hw1:IntKind.i64.wrap (d.Gc - r.start)=d.Gc - r.start:=IntWalk.i64_in _ (by omega);clear y
       go_upto_region 7 with (fail)
       have ev0:=aG (World.block_lt_of_cell? W7 _ v0) v0;have ev2:=aG (World.block_lt_of_cell? W7 _ v2) v2;have ed3:=aG (World.block_lt_of_cell? W7 _ d3) d3;have es0:=aG (World.block_lt_of_cell? W7 _ s0) s0;have es1:=aG (World.block_lt_of_cell? W7 _ s1) s1;have es2:=aG (World.block_lt_of_cell? W7 _ s2) s2;have es3:=aG (World.block_lt_of_cell? W7 _ s3) s3;have es4:=aG (World.block_lt_of_cell? W7 _ s4) s4;have es5:=aG (World.block_lt_of_cell? W7 _ s5) s5;have es6:=aG (World.block_lt_of_cell? W7 _ s6) s6;have es7:=aG (World.block_lt_of_cell? W7 _ s7) s7;have es8:=aG (World.block_lt_of_cell? W7 _ s8) s8;have es9:=aG (World.block_lt_of_cell? W7 _ s9) s9;have es10:=aG (World.block_lt_of_cell? W7 _ s10) s10;have hen:=zV (k:=s.kind) (l:=s.length) (n:=s.Ga.length) (by omega);have HEB:Hid (Below w.heap.size w W7):=HB7
       (refine aU (by kernel_rfl) (by kernel_rfl) ?_;(repeat (go_big_quiet_step ((go_at_call 144;exact iH (ji _ _ _ _ _ _ _ _ _ _ _ _ _ _ _ _ (by omega) (by omega) (by omega))))));(with_reducible refine wpQuiet_nil ?_);intro wq hwq;have hbq:=dY hwq;clear hwq)
       have HBW:=aa (HB7.out.trans (hbq.mono HB7.out.size));have H0W:=aa ((hbq.block _ (lt_of_block H07.out)).trans H07.out);have H1W:=aa ((hbq.block _ (lt_of_block H17.out)).trans H17.out);clear hbq ev0 ev2 ed3 es0 es1 es2 es3 es4 es5 es6 es7 es8 es9 es10
       by_cases c2:iB s.kind s.length s.Ga.length≤d.Gc - r.start
       ·have HOK:Hid (fI g s r=true):=aa (by rw [HAI.out,hrv,decide_eq_true c0,decide_eq_true c1,decide_eq_true c2];rfl)
        have q2:decide (d.Gc - r.start<iB s.kind s.length s.Ga.length)=false:=by simp;omega
        go_wp2;go_roundw
        case rel=>exact ⟨k+1,by omega,by go_num,HGOOD.out HOK.out,HBW.out,H0W.out,H1W.out⟩
        case measure=>simp [intOf];omega
       ·have HOK:Hid (fI g s r=false):=aa (by rw [HAI.out,hrv,decide_eq_false c2];simp)
        have q2:decide (d.Gc - r.start<iB s.kind s.length s.Ga.length)=true:=by simp;omega
        go_wp2;go_ret;exact ⟨bB (HBAD.out HOK.out).symm,HBW.out⟩
      ·have HOK:Hid (fI g s r=false):=aa (by rw [HAI.out,hrv,decide_eq_false c1];simp)
       have q0:decide (r.start<0)=false:=by simp;omega
       have q1:decide (d.Gc<r.start)=true:=by simp;omega
       go_upto_region 7 with (fail)
       go_quiet (fail);go_wp2;go_ret;exact ⟨bB (HBAD.out HOK.out).symm,aT HB7.out _⟩
     ·have HOK:Hid (fI g s r=false):=aa (by rw [HAI.out,hrv,decide_eq_false c0];simp)
      have q0:decide (r.start<0)=true:=by simp;omega
      go_upto_region 7 with (fail)
      go_quiet (fail);go_wp2;go_ret;exact ⟨bB (HBAD.out HOK.out).symm,aT HB7.out _⟩
   ·have HAA:Hid (¬ s.Ga.all (fI g s)=false):=aa (by
     rw [Bool.not_eq_false,List.all_eq_true];intro r hr;obtain ⟨j,hj⟩:=List.getElem?_of_mem hr
     exact HALL.out j r (by have:=(List.getElem?_eq_some_iff.1 hj).1;omega) hj)
    rw [if_neg HAA.out] at HF;clear HAA HALL;have y:=SL.out wr H13.out;have s0:=y 0 _ rfl;have s1:=y 1 _ rfl;have s2:=y 2 _ rfl;have s3:=y 3 _ rfl;have s4:=y 4 _ rfl;have s5:=y 5 _ rfl;have s6:=y 6 _ rfl;have s7:=y 7 _ rfl;have s8:=y 8 _ rfl;have s9:=y 9 _ rfl;have s10:=y 10 _ rfl;have y':=VL.out wr H03.out;have v0:=y' 0 _ rfl;have v1:=y' 1 _ rfl;have v2:=y' 2 _ rfl;have v3:=y' 3 _ rfl;have v4:=y' 4 _ rfl;have v5:=y' 5 _ rfl;have HBR:=aa hB
    go_wp2_with fail
    clear s0 s1 s2 s3 s4 s5 s6 s7 s8 s9 s10 y v0 v1 v2 v3 v4 v5 y';refine (Bo (ok:=ok) v s _ _ _ (aN.moves.mv (Mv.of HBR.out) HVV.out) (bC.moves.mv (Mv.of HBR.out) HSV.out) (by omega) (HSX.out.below HBR.out) hvn HFM.out.p5 HFM.out.p7).mono ?_;rintro e w4 ⟨rfl,hb4⟩;have HB4:=aa (HBR.out.trans (hb4.mono HBR.out.size));have H04:=aa ((hb4.block _ (lt_of_block H03.out)).trans H03.out);have H14:=aa ((hb4.block _ (lt_of_block H13.out)).trans H13.out);clear hb4 H03 H13 HBR hB;generalize hnm:jS v s=nb at *;clear hnm;cases nb with
    | false =>
     rw [if_pos rfl] at HF;go_wp2;go_ret;exact ⟨bB HF.out.symm,HB4.out⟩
    | true =>
     rw [if_neg (by simp)] at HF;have s2:=SL.out w4 H14.out 2 _ rfl
     by_cases hk6:s.kind=6
     ·have hk6b:(s.kind == 6)=true:=by simpa using hk6
      have HK6:=aa hk6;clear hk6
      go_upto_region 13 with (fail)
      clear s2;refine oG (ok:=ok) _ _ _ _ _ _ _ _ _ _ _ _ _ _ _ _ _ _ _ _ _ _ _ _ _ _ _ _ _ _ _ _ _ _ _ _ _ _ _ _ _ _ _ _ _ _ _ _ _ _ _ _ _ _ _ _ _ _ _ _ _ _ _ _ _ _ _ _ _ _ _ _ _ _ _ _ _ _ _ _ _ _ _ _ _ _ _ _ _ _ _ _ _ _ _ _ _ _ _ _ _ _ _ _ _ _ _ w4 g a bc sm _ s.pool Bc (Nat.lt_of_lt_of_le hbc HB4.out.size) ((HB4.out.cell (p:=⟨Bc,0,none⟩) hbc).trans HCC.out) ((HB4.out.block bc hbcl).trans HCB.out) (SL.out w4 H14.out 7 _ rfl) (lt_of_block H14.out) (HG.out.mv (Mv.of HB4.out)) HZ.out _ _ rfl rfl (aa ?_) (fun _ _ _ _ _ h=>h);intro tp8 tc8 sp8 sc8 b8 W7 hb7 hb8 hblk8 hv7;have HB7:=aa (HB4.out.trans (hb7.mono HB4.out.size));have H07:=aa ((hb7.block _ (lt_of_block H04.out)).trans H04.out);have H17:=aa ((hb7.block _ (lt_of_block H14.out)).trans H14.out);have HV7:=aa hv7
      have hvl:((aM g.F9 s.pool).getD eY).Gf.length≤1000000:=by
       cases hf:aM g.F9 s.pool with
       | none=>exact Nat.zero_le _
       | some y=>exact (HZ.out.vz y (List.mem_of_find?_eq_some hf)).Gf
      generalize (aM g.F9 s.pool).isSome=fd at *;generalize (aM g.F9 s.pool).getD eY=vx at *
      have bL:∀ (j:Nat) (z:Value),[.string vx.name,.int .u64 vx.id,.bool vx.hidden,.bool vx.ro,.slice tp8 vx.tags.length tc8,.slice sp8 vx.Gf.length sc8][j]?=some z→W7.cell? ⟨b8,j,none⟩=some z:=fun j z hz=>by
       simp only [World.cell?,hblk8];simpa using hz
      have n0:=bL 0 _ rfl;have n1:=bL 1 _ rfl;have n2:=bL 2 _ rfl;have n3:=bL 3 _ rfl;have n4:=bL 4 _ rfl;have n5:=bL 5 _ rfl;clear bL hb7 hb8 hblk8 hv7 H04 H14 HB4
      go_wp2_with fail
      refine (kU vx _ _ HV7.out (by omega)).mono ?_;rintro e w5 ⟨rfl,hb5⟩;have HB5:=aa (HB7.out.trans (hb5.mono HB7.out.size));have H05:=aa ((hb5.block _ (lt_of_block H07.out)).trans H07.out);have H15:=aa ((hb5.block _ (lt_of_block H17.out)).trans H17.out);clear hb5 H07 H17 HB7 n0 n1 n2 n3 n4 n5
      by_cases k5:eZ vx=5
      ·have k5b:(eZ vx != 5)=false:=by simpa using k5
       rw [if_neg (fun h=>h.2 k5)] at HF;have HK5:=aa k5;clear k5;have y:=SL.out w5 H15.out;have s0:=y 0 _ rfl;have s1:=y 1 _ rfl;have s2:=y 2 _ rfl;have s3:=y 3 _ rfl;have s4:=y 4 _ rfl;have s5:=y 5 _ rfl;have s6:=y 6 _ rfl;have s7:=y 7 _ rfl;have s8:=y 8 _ rfl;have s9:=y 9 _ rfl;have s10:=y 10 _ rfl
       go_wp2_with fail
       clear s0 s1 s2 s3 s4 s5 s6 s7 s8 s9 s10 y;refine (kN (ok:=ok) s false _ _ (bC.moves.mv (Mv.of HB5.out) HSV.out) (by omega)).mono ?_;rintro e w6 ⟨uv,rfl,how,hb6⟩;have hrd:=how.rd (ok:=fun _=>True) (fun _ _=>trivial);obtain ⟨up,uc,rfl,huc1,huc2⟩:=hrd.cap;have HRD:=aa hrd;clear hrd how;have HB6:=aa (HB5.out.trans (hb6.mono HB5.out.size));clear hb6;have hul:(dD s false).length≤1000002:=oL s false (by omega);generalize hL:dD s false=L at *;clear hL;go_wp2
       go_loopw [86] (fun i wr=>∃ k:Nat,k≤L.length∧i=.int .i64 k∧(∀ j x,j<k→L[j]?=some x→dh g x=false)∧Below w6.heap.size w6 wr) (fun i _=>L.length - (intOf i).toNat)
       case atStart=>exact ⟨0,Nat.zero_le _,rfl,fun j r hj=>by omega,Below.refl _ _⟩
       case round =>
        obtain ⟨k,hk,rfl,hall,hB⟩:=hrel;have HALL2:=aa hall;clear hall
        by_cases hlt:k<L.length
        ·obtain ⟨x,hx⟩:=aj L k hlt
         obtain ⟨b,off,us,rfl,_,hbw,hul',hvs',hcv⟩:=HRD.out.elem hx;obtain rfl:us=_:=hvs';have q0:=(hB.cell (p:=⟨b,off+k*1+0,none⟩) hbw).trans (hcv 0 _ rfl);rw [Nat.mul_one,Nat.add_zero] at q0;have HX:=aa hx;clear hx;have HBW:=aa (HB6.out.trans (hB.mono HB6.out.size));obtain ⟨g0,g1,g2,g3,g4,g5,g6,g7,g8⟩:=bX.cells (sm:=sm) ((HBW.out.block bc hbcl).trans HCB.out);have cc:=(HBW.out.cell (p:=⟨Bc,0,none⟩) hbc).trans HCC.out;clear hcv hul'
         go_wp2_with fail
         clear g0 g1 g2 g3 g4 g5 g6 g7 g8 cc;refine (fA (ok:=ok) g a x _ (HG.out.mv (Mv.of HBW.out)).F9 HZ.out.vl HZ.out.vz).mono ?_;rintro e w8 ⟨u8,rfl,hv8,hb8⟩;have HV8:=aa hv8;obtain ⟨t8,s8,rfl,ht8,hs8⟩:=hv8;obtain ⟨tp8,tc8,rfl,_,_⟩:=ht8.cap;obtain ⟨sp8,sc8,rfl,_,_⟩:=hs8.cap;clear ht8 hs8;have hB8:Below w6.heap.size w6 w8:=hB.trans (hb8.mono hB.size);have HB8:=aa hB8
         have HBAD:Hid (dh g x=true→mM g v s=17):=aa fun h=>by
          rw [HF.out,if_pos];rw [List.any_eq_true];exact ⟨x,List.mem_of_getElem? HX.out,h⟩
         have HGOOD:Hid (dh g x=false→∀ j y,j<k+1→L[j]?=some y→dh g y=false):=aa fun h j y hj hy=>by
          by_cases hjk:j=k
          ·subst hjk
           rw [HX.out] at hy;cases hy
           exact h
          ·exact HALL2.out j y (by omega) hy
         have HBK:Hid (dh g x=_):=aa (dh.eq_1 g x)
         have hvl:((aM g.F9 x).getD eY).Gf.length≤1000000:=by
          cases hf:aM g.F9 x with
          | none=>exact Nat.zero_le _
          | some y=>exact (HZ.out.vz y (List.mem_of_find?_eq_some hf)).Gf
         generalize (aM g.F9 x).isSome=fd at *;generalize (aM g.F9 x).getD eY=vx at *;have hA:=ae w8 (.cells #[.string vx.name,.int .u64 vx.id,.bool vx.hidden,.bool vx.ro,.slice tp8 vx.tags.length tc8,.slice sp8 vx.Gf.length sc8] 55);have HNB:=aa (heap_alloc_new w8 (.cells #[.string vx.name,.int .u64 vx.id,.bool vx.hidden,.bool vx.ro,.slice tp8 vx.tags.length tc8,.slice sp8 vx.Gf.length sc8] 55));have HVA:=aa (aN.moves.mv (Mv.of hA) HV8.out);have HBA:=aa (hB8.trans (hA.mono hB8.size));have HLA:=aa (lt_of_block (heap_alloc_new w8 (.cells #[.string vx.name,.int .u64 vx.id,.bool vx.hidden,.bool vx.ro,.slice tp8 vx.tags.length tc8,.slice sp8 vx.Gf.length sc8] 55)));clear hA hb8 hB8
         go_wp2_with fail
         generalize hWA:World.alloc w8 _=WA at *;clear hWA;refine (kU vx _ _ HVA.out (by omega)).mono ?_;rintro e w9 ⟨rfl,hb9⟩;have HB9:=aa (HBA.out.trans (hb9.mono HBA.out.size));have HV9:=aa (aN.moves.mv (Mv.of hb9) HVA.out);have hnb9:=(hb9.block _ HLA.out).trans HNB.out
         have bL:∀ (j:Nat) (z:Value),[.string vx.name,.int .u64 vx.id,.bool vx.hidden,.bool vx.ro,.slice tp8 vx.tags.length tc8,.slice sp8 vx.Gf.length sc8][j]?=some z→w9.cell? ⟨w8.heap.size,j,none⟩=some z:=fun j z hz=>by
          simp only [World.cell?,hnb9];simpa using hz
         have n0:=bL 0 _ rfl;have n1:=bL 1 _ rfl;have n2:=bL 2 _ rfl;have n3:=bL 3 _ rfl;have n4:=bL 4 _ rfl;have n5:=bL 5 _ rfl;clear bL hnb9 hb9
         by_cases k6:eZ vx=6
         ·have k6b:(eZ vx == 6)=true:=by simpa using k6
          have HOK:Hid (dh g x=true):=aa (by rw [HBK.out,k6b];rfl);go_wp2;go_ret;exact ⟨bB (HBAD.out HOK.out).symm,HB6.out.trans (HB9.out.mono HB6.out.size)⟩
         ·have k6b:(eZ vx == 6)=false:=by simpa using k6
          go_wp2_with fail
          refine (kU vx _ _ HV9.out (by omega)).mono ?_;rintro e w10 ⟨rfl,hb10⟩;have HB10:=aa (HB9.out.trans (hb10.mono HB9.out.size));clear hb10
          by_cases k5:eZ vx=5
          ·have k5b:(eZ vx == 5)=true:=by simpa using k5
           have HOK:Hid (dh g x=true):=aa (by rw [HBK.out,k5b];simp);go_wp2;go_ret;exact ⟨bB (HBAD.out HOK.out).symm,HB6.out.trans (HB10.out.mono HB6.out.size)⟩
          ·have k5b:(eZ vx == 5)=false:=by simpa using k5
           have HOK:Hid (dh g x=false):=aa (by rw [HBK.out,k6b,k5b];rfl);go_wp2;go_roundw
           case rel=>exact ⟨k+1,by omega,by go_num,HGOOD.out HOK.out,HB10.out⟩
           case measure=>simp [intOf];omega
        ·have HBW:=aa (HB6.out.trans (hB.mono HB6.out.size))
         have HR:Hid (mM g v s=0):=aa (by
          rw [HF.out,if_neg];intro h;rw [List.any_eq_true] at h;obtain ⟨x,hx,hb⟩:=h;obtain ⟨j,hj⟩:=List.getElem?_of_mem hx;rw [HALL2.out j x (by have:=(List.getElem?_eq_some_iff.1 hj).1;omega) hj] at hb
          cases hb)
         go_wp2;go_ret;exact ⟨bB HR.out.symm,HBW.out⟩
      ·have k5b:(eZ vx != 5)=true:=by simpa using k5
       rw [if_pos ⟨HK6.out,k5⟩] at HF;go_wp2;go_ret;exact ⟨bB HF.out.symm,HB5.out⟩
     ·have hk6b:(s.kind == 6)=false:=by simpa using hk6
      rw [if_neg (fun h=>hk6 h.1)] at HF;clear hk6;have y:=SL.out w4 H14.out;have s0:=y 0 _ rfl;have s1:=y 1 _ rfl;have s2:=y 2 _ rfl;have s3:=y 3 _ rfl;have s4:=y 4 _ rfl;have s5:=y 5 _ rfl;have s6:=y 6 _ rfl;have s7:=y 7 _ rfl;have s8:=y 8 _ rfl;have s9:=y 9 _ rfl;have s10:=y 10 _ rfl
      go_wp2_with fail
      clear s0 s1 s2 s3 s4 s5 s6 s7 s8 s9 s10 y;refine (kN (ok:=ok) s false _ _ (bC.moves.mv (Mv.of HB4.out) HSV.out) (by omega)).mono ?_;rintro e w6 ⟨uv,rfl,how,hb6⟩;have hrd:=how.rd (ok:=fun _=>True) (fun _ _=>trivial);obtain ⟨up,uc,rfl,huc1,huc2⟩:=hrd.cap;have HRD:=aa hrd;clear hrd how;have HB6:=aa (HB4.out.trans (hb6.mono HB4.out.size));clear hb6;have hul:(dD s false).length≤1000002:=oL s false (by omega);generalize hL:dD s false=L at *;clear hL;go_wp2
      go_loopw [86] (fun i wr=>∃ k:Nat,k≤L.length∧i=.int .i64 k∧(∀ j x,j<k→L[j]?=some x→dh g x=false)∧Below w6.heap.size w6 wr) (fun i _=>L.length - (intOf i).toNat)
      case atStart=>exact ⟨0,Nat.zero_le _,rfl,fun j r hj=>by omega,Below.refl _ _⟩
      case round =>
       obtain ⟨k,hk,rfl,hall,hB⟩:=hrel;have HALL2:=aa hall;clear hall
       by_cases hlt:k<L.length
       ·obtain ⟨x,hx⟩:=aj L k hlt
        obtain ⟨b,off,us,rfl,_,hbw,hul',hvs',hcv⟩:=HRD.out.elem hx;obtain rfl:us=_:=hvs';have q0:=(hB.cell (p:=⟨b,off+k*1+0,none⟩) hbw).trans (hcv 0 _ rfl);rw [Nat.mul_one,Nat.add_zero] at q0;have HX:=aa hx;clear hx;have HBW:=aa (HB6.out.trans (hB.mono HB6.out.size));obtain ⟨g0,g1,g2,g3,g4,g5,g6,g7,g8⟩:=bX.cells (sm:=sm) ((HBW.out.block bc hbcl).trans HCB.out);have cc:=(HBW.out.cell (p:=⟨Bc,0,none⟩) hbc).trans HCC.out;clear hcv hul'
        go_wp2_with fail
        clear g0 g1 g2 g3 g4 g5 g6 g7 g8 cc;refine (fA (ok:=ok) g a x _ (HG.out.mv (Mv.of HBW.out)).F9 HZ.out.vl HZ.out.vz).mono ?_;rintro e w8 ⟨u8,rfl,hv8,hb8⟩;have HV8:=aa hv8;obtain ⟨t8,s8,rfl,ht8,hs8⟩:=hv8;obtain ⟨tp8,tc8,rfl,_,_⟩:=ht8.cap;obtain ⟨sp8,sc8,rfl,_,_⟩:=hs8.cap;clear ht8 hs8;have hB8:Below w6.heap.size w6 w8:=hB.trans (hb8.mono hB.size);have HB8:=aa hB8
        have HBAD:Hid (dh g x=true→mM g v s=17):=aa fun h=>by
         rw [HF.out,if_pos];rw [List.any_eq_true];exact ⟨x,List.mem_of_getElem? HX.out,h⟩
        have HGOOD:Hid (dh g x=false→∀ j y,j<k+1→L[j]?=some y→dh g y=false):=aa fun h j y hj hy=>by
         by_cases hjk:j=k
         ·subst hjk
          rw [HX.out] at hy;cases hy
          exact h
         ·exact HALL2.out j y (by omega) hy
        have HBK:Hid (dh g x=_):=aa (dh.eq_1 g x)
        have hvl:((aM g.F9 x).getD eY).Gf.length≤1000000:=by
         cases hf:aM g.F9 x with
         | none=>exact Nat.zero_le _
         | some y=>exact (HZ.out.vz y (List.mem_of_find?_eq_some hf)).Gf
        generalize (aM g.F9 x).isSome=fd at *;generalize (aM g.F9 x).getD eY=vx at *;have hA:=ae w8 (.cells #[.string vx.name,.int .u64 vx.id,.bool vx.hidden,.bool vx.ro,.slice tp8 vx.tags.length tc8,.slice sp8 vx.Gf.length sc8] 55);have HNB:=aa (heap_alloc_new w8 (.cells #[.string vx.name,.int .u64 vx.id,.bool vx.hidden,.bool vx.ro,.slice tp8 vx.tags.length tc8,.slice sp8 vx.Gf.length sc8] 55));have HVA:=aa (aN.moves.mv (Mv.of hA) HV8.out);have HBA:=aa (hB8.trans (hA.mono hB8.size));have HLA:=aa (lt_of_block (heap_alloc_new w8 (.cells #[.string vx.name,.int .u64 vx.id,.bool vx.hidden,.bool vx.ro,.slice tp8 vx.tags.length tc8,.slice sp8 vx.Gf.length sc8] 55)));clear hA hb8 hB8
        go_wp2_with fail
        generalize hWA:World.alloc w8 _=WA at *;clear hWA;refine (kU vx _ _ HVA.out (by omega)).mono ?_;rintro e w9 ⟨rfl,hb9⟩;have HB9:=aa (HBA.out.trans (hb9.mono HBA.out.size));have HV9:=aa (aN.moves.mv (Mv.of hb9) HVA.out);have hnb9:=(hb9.block _ HLA.out).trans HNB.out
        have bL:∀ (j:Nat) (z:Value),[.string vx.name,.int .u64 vx.id,.bool vx.hidden,.bool vx.ro,.slice tp8 vx.tags.length tc8,.slice sp8 vx.Gf.length sc8][j]?=some z→w9.cell? ⟨w8.heap.size,j,none⟩=some z:=fun j z hz=>by
         simp only [World.cell?,hnb9];simpa using hz
        have n0:=bL 0 _ rfl;have n1:=bL 1 _ rfl;have n2:=bL 2 _ rfl;have n3:=bL 3 _ rfl;have n4:=bL 4 _ rfl;have n5:=bL 5 _ rfl;clear bL hnb9 hb9
        by_cases k6:eZ vx=6
        ·have k6b:(eZ vx == 6)=true:=by simpa using k6
         have HOK:Hid (dh g x=true):=aa (by rw [HBK.out,k6b];rfl);go_wp2;go_ret;exact ⟨bB (HBAD.out HOK.out).symm,HB6.out.trans (HB9.out.mono HB6.out.size)⟩
        ·have k6b:(eZ vx == 6)=false:=by simpa using k6
         go_wp2_with fail
         refine (kU vx _ _ HV9.out (by omega)).mono ?_;rintro e w10 ⟨rfl,hb10⟩;have HB10:=aa (HB9.out.trans (hb10.mono HB9.out.size));clear hb10
         by_cases k5:eZ vx=5
         ·have k5b:(eZ vx == 5)=true:=by simpa using k5
          have HOK:Hid (dh g x=true):=aa (by rw [HBK.out,k5b];simp);go_wp2;go_ret;exact ⟨bB (HBAD.out HOK.out).symm,HB6.out.trans (HB10.out.mono HB6.out.size)⟩
         ·have k5b:(eZ vx == 5)=false:=by simpa using k5
          have HOK:Hid (dh g x=false):=aa (by rw [HBK.out,k6b,k5b];rfl);go_wp2;go_roundw
          case rel=>exact ⟨k+1,by omega,by go_num,HGOOD.out HOK.out,HB10.out⟩
          case measure=>simp [intOf];omega
       ·have HBW:=aa (HB6.out.trans (hB.mono HB6.out.size))
        have HR:Hid (mM g v s=0):=aa (by
         rw [HF.out,if_neg];intro h;rw [List.any_eq_true] at h;obtain ⟨x,hx,hb⟩:=h;obtain ⟨j,hj⟩:=List.getElem?_of_mem hx;rw [HALL2.out j x (by have:=(List.getElem?_eq_some_iff.1 hj).1;omega) hj] at hb
         cases hb)
        go_wp2;go_ret;exact ⟨bB HR.out.symm,HBW.out⟩
end Go.Proofs.YtjdfihglehfelaaGreatDoor
