/- Lemmas: ModS, ModT, ModU, ModV, ModW, ModX. -/
import Derived.Test.YtjdfihglehfelaaGreatDoorPk23
import Derived.Laws.EntriesVeiled
import Derived.WideMake
set_option maxRecDepth 100000
set_option maxHeartbeats 32000000
set_option linter.all false
namespace Go.Proofs.YtjdfihglehfelaaGreatDoor
open Go.RowKit Go.Maps Go.Shelf
def aOn (s:aB)(i:Nat):ByteArray:=((s.Ga[i]?).getD ⟨false,⟨#[]⟩,0⟩).on
def BZ (g:af)(s:aB):Int:=(s.length*g.Gd+s.chunk - 1) / s.chunk
def Fe (g:af)(s:aB):Bool:=s.log.toList.isEmpty||decide (1+(BZ g s+64 - 1) / 64≤dO g s.log*g.Gd)
def ER (g:af)(s:aB):Bool:=decide (s.length / ((s.Ga.length:Int) - 1)*g.Gd+16≤dO g (aOn s 0)*g.Gd)
def CX (g:af)(s:aB):Bool :=
 if s.kind=3 then s.Ga.all (fun a=>dO g a.on == s.length)&&Fe g s
 else if s.kind=4 then s.Ga.all (fun a=>dO g a.on == dO g (aOn s 0))&&ER g s
 else if s.kind=5 then dO g (aOn s 1) == s.length
 else if s.kind=7 then dO g (aOn s 0) == s.length else true
def xh (g:af)(s:aB):Int:=if CX g s then 0 else 3
structure Ah (s:aB):Prop where
 fm:wM s
 c3:s.kind=3→1≤s.chunk∧s.chunk≤1024
 a4:s.kind=4→3≤s.Ga.length
def Cu (g:af):Prop:=∀ nm,0≤dO g nm∧dO g nm≤10000000
theorem tN (n d:Int)(w:World)(h0:0≤n)(h1:n≤1000000000000)(h2:1≤d)(h3:d≤1000000) :
  Calls Tryz.prog 151 #[.int .i64 n,.int .i64 d] w fun e w'=>e=.returned (.int .i64 ((n+d - 1) / d))∧Below w.heap.size w w' :=
 (CV n d w h0 h1 h2 h3).mono fun _ _ ⟨h,e⟩=>⟨h,e ▸ Below.refl _ _⟩
theorem zb {ok:Nat→Prop}(g:af)(a:bN)(bc Bc Bl:Nat)(v:ay)(s:aB)(u1 u2:List Value)(w:World)(hck:gY w bc g a)(hcc:w.cell? ⟨Bc,0,none⟩=some (.pointer (some ⟨bc,0,none⟩)))(hbc:Bc<w.heap.size)
  (hll:w.cell? ⟨Bl,0,none⟩=some (.func (.func 148) #[] #[.pointer (some ⟨Bc,0,none⟩)])) (hbl:Bl<w.heap.size) (hg:dN ok w g a) (hz:GSz g) (hlb:Cu g) (hx:1≤g.Gd∧g.Gd≤1024)
  (hv:aN ok w u1 v) (hs:bC ok w u2 s) (hf:Ah s) :
  Calls Tryz.prog 150 #[.agg u1.toArray,.agg u2.toArray,.pointer (some ⟨Bl,0,none⟩),.pointer (some ⟨Bc,0,none⟩)] w fun e w'=>e=.returned (.int .i64 (xh g s))∧Below w.heap.size w w':=by
 have hbcl:=hck.lt;obtain ⟨tv,sv,rfl,htr,hsr⟩:=hv;obtain ⟨tp,tc,rfl,_,_⟩:=htr.cap;obtain ⟨sp,sc,rfl,_,_⟩:=hsr.cap;obtain ⟨av,stv,rfl,har,hst⟩:=hs;obtain ⟨ap,ac,rfl,hac1,hac2⟩:=har.cap;obtain ⟨stp,stc,rfl,hsc1,hsc2⟩:=hst.cap;have HAR:=aa har;clear htr hsr har hst;have HCK:=aa hck;obtain ⟨sm,hblk,_⟩:=hck;have HCB:Hid (bX w bc sm g a):=aa hblk;clear hblk;have HG:=aa hg;clear hg;have HZ:=aa hz;clear hz;have HFM:=aa hf;have hl0:=hf.fm.l0;have hl1:=hf.fm.l1;have har6:=hf.fm.ar;clear hf;have HLB:=aa hlb;clear hlb;have HX:=aa hx;clear hx;have HCC:=aa hcc;have HLL:=aa hll;have hb2:=(ae w (.cells #[.string v.name,.int .u64 v.id,.bool v.hidden,.bool v.ro,.slice tp v.tags.length tc,.slice sp v.Gf.length sc] 55)).trans ((ae (w.alloc (.cells #[.string v.name,.int .u64 v.id,.bool v.hidden,.bool v.ro,.slice tp v.tags.length tc,.slice sp v.Gf.length sc] 55)) (.cells #[.int .i64 s.start,.int .i64 s.length,.int .i64 s.kind,.slice ap s.Ga.length ac,.int .i64 s.chunk,.slice stp s.stale.length stc,.string s.log,.string s.pool,.int .i64 s.device,.int .i64 s.mode,.int .i64 s.done] 79)).mono (ae w _).size)
 have h1:((w.alloc (.cells #[.string v.name,.int .u64 v.id,.bool v.hidden,.bool v.ro,.slice tp v.tags.length tc,.slice sp v.Gf.length sc] 55)).alloc (.cells #[.int .i64 s.start,.int .i64 s.length,.int .i64 s.kind,.slice ap s.Ga.length ac,.int .i64 s.chunk,.slice stp s.stale.length stc,.string s.log,.string s.pool,.int .i64 s.device,.int .i64 s.mode,.int .i64 s.done] 79)).heap[w.heap.size+1]?=some (.cells #[.int .i64 s.start,.int .i64 s.length,.int .i64 s.kind,.slice ap s.Ga.length ac,.int .i64 s.chunk,.slice stp s.stale.length stc,.string s.log,.string s.pool,.int .i64 s.device,.int .i64 s.mode,.int .i64 s.done] 79 (0,0)):=by
  have:=heap_alloc_new (w.alloc (.cells #[.string v.name,.int .u64 v.id,.bool v.hidden,.bool v.ro,.slice tp v.tags.length tc,.slice sp v.Gf.length sc] 55)) (.cells #[.int .i64 s.start,.int .i64 s.length,.int .i64 s.kind,.slice ap s.Ga.length ac,.int .i64 s.chunk,.slice stp s.stale.length stc,.string s.log,.string s.pool,.int .i64 s.device,.int .i64 s.mode,.int .i64 s.done] 79);rw [World.size_alloc] at this;exact this
 have HB2:=aa hb2;clear hb2;have H1:=aa h1;clear h1
 have segL:∀ wr:World,wr.heap[w.heap.size+1]?=some (.cells #[.int .i64 s.start,.int .i64 s.length,.int .i64 s.kind,.slice ap s.Ga.length ac,.int .i64 s.chunk,.slice stp s.stale.length stc,.string s.log,.string s.pool,.int .i64 s.device,.int .i64 s.mode,.int .i64 s.done] 79 (0,0))→∀ (j:Nat) (z:Value),[.int .i64 s.start,.int .i64 s.length,.int .i64 s.kind,.slice ap s.Ga.length ac,.int .i64 s.chunk,.slice stp s.stale.length stc,.string s.log,.string s.pool,.int .i64 s.device,.int .i64 s.mode,.int .i64 s.done][j]?=some z→wr.cell? ⟨w.heap.size+1,j,none⟩=some z:=fun wr h j z hz=>by
  simp only [World.cell?,h];simpa using hz
 have SL:=aa segL;clear segL
 have LEN:∀ (wr:World) (nm:ByteArray),Below w.heap.size w wr→Calls Tryz.prog 148 #[.string nm,.pointer (some ⟨Bc,0,none⟩)] wr fun e w'=>e=.returned (.int .i64 (dO g nm))∧Below wr.heap.size wr w':=fun wr nm hB =>
  yC (ok:=ok) g a bc Bc nm wr (HCK.out.below hB) ((hB.cell hbc).trans HCC.out) (HG.out.mv (Mv.of hB)) HZ.out
 have HLEN:=aa LEN;clear LEN hcc hll;have HE:Hid (xh g s=_):=aa (xh.eq_1 g s);have HSB:Hid (CX g s=_):=aa (CX.eq_1 g s);go_enter Tryz.func150,Tryz.ntmps150
 go_upto_region 2 with (fail)
 generalize hW2:World.alloc (World.alloc w _) _=W2 at *;clear hW2;have s2:=SL.out W2 H1.out 2 _ rfl
 by_cases h3:s.kind=3
 ·have h3b:(s.kind == 3)=true:=by simpa using h3
  rw [if_pos h3] at HSB;have hn:=HFM.out.c3 h3;clear h3;have HMB:Hid (Fe g s=_):=aa (Fe.eq_1 g s);have hn1:=hn.1;have hn2:=hn.2;clear hn;have s3:=SL.out W2 H1.out 3 _ rfl
  go_upto_region 5 with (fail)
  clear s2 s3
  go_loopw [20,7] (fun i x wr=>∃ k:Nat,k≤s.Ga.length∧i=.int .i64 k∧x=.bool ((s.Ga.take k).all (fun a=>dO g a.on == s.length))∧Below w.heap.size w wr∧wr.heap[w.heap.size+1]?=some (.cells #[.int .i64 s.start,.int .i64 s.length,.int .i64 s.kind,.slice ap s.Ga.length ac,.int .i64 s.chunk,.slice stp s.stale.length stc,.string s.log,.string s.pool,.int .i64 s.device,.int .i64 s.mode,.int .i64 s.done] 79 (0,0))) (fun i _ _=>s.Ga.length - (intOf i).toNat)
  case atStart=>exact ⟨0,Nat.zero_le _,rfl,rfl,HB2.out,H1.out⟩
  case round =>
   clear HB2 H1;obtain ⟨k,hk,rfl,rfl,hB,hx1⟩:=hrel;have H1:=aa hx1;clear hx1
   by_cases hlt:k<s.Ga.length
   ·obtain ⟨r,hr⟩:=aj s.Ga k hlt
    obtain ⟨b,off,us,rfl,_,hbw,hul',hvs',hcv'⟩:=HAR.out.elem hr;obtain rfl:us=_:=hvs';have hbk:wr.heap[b]?=w.heap[b]?:=hB.block b hbw;have q0:=(World.cell?_of_block (a:=⟨b,off+k*3,none⟩) hbk).trans (hcv' 0 _ rfl);have q1:=(World.cell?_of_block (a:=⟨b,off+k*3+1,none⟩) hbk).trans (hcv' 1 _ rfl);have q2:=(World.cell?_of_block (a:=⟨b,off+k*3+2,none⟩) hbk).trans (hcv' 2 _ rfl);have HALL:Hid ((s.Ga.take (k+1)).all (fun a=>dO g a.on == s.length)=((s.Ga.take k).all (fun a=>dO g a.on == s.length)&&(dO g r.on == s.length))):=aa (by rw [take_snoc' s.Ga k r hr,List.all_append];simp);clear hcv' hul' hbk hr;have hA:=ae wr (.cells #[.bool r.vol,.string r.on,.int .i64 r.start] 60);have HBA:=aa (heap_alloc_new wr (.cells #[.bool r.vol,.string r.on,.int .i64 r.start] 60));have HB1:=aa (hB.trans (hA.mono hB.size));have H11:=aa ((hA.block _ (lt_of_block H1.out)).trans H1.out);clear hA;generalize (s.Ga.take k).all (fun a=>dO g a.on == s.length)=x at *
    go_upto_region 7 with (fail)
    generalize hW3:World.alloc wr _=W3 at *;generalize hB3:wr.heap.size=Ba at *;clear hW3 hB3 hB q0 q1 q2 H1;cases x with
    | true =>
     have a1:W3.cell? ⟨Ba,1,none⟩=some (.string r.on):=by simp [World.cell?,HBA.out]
     have s1:W3.cell? ⟨w.heap.size+1,1,none⟩=some (.int .i64 s.length):=by simp [World.cell?,H11.out]
     have l0:=(HB1.out.cell (p:=⟨Bl,0,none⟩) hbl).trans HLL.out;have el0:=aG (World.block_lt_of_cell? W3 _ l0) l0;have es1:=aG (World.block_lt_of_cell? W3 _ s1) s1;have ea1:=aG (World.block_lt_of_cell? W3 _ a1) a1;have HLE:Hid (∀ (p:fo) nm,Calls Tryz.prog 148 #[.string nm,.pointer (some ⟨Bc,0,none⟩)] (ext W3 p) fun e w'=>e=.returned (.int .i64 (dO g nm))∧Below (ext W3 p).heap.size (ext W3 p) w'):=aa fun p nm=>HLEN.out _ nm (bel HB1.out (dQ W3 p))
     (refine aU (by kernel_rfl) (by kernel_rfl) ?_;(repeat (go_big_quiet_step ((go_at_call 148;exact iH (HLE.out _ _)))));(with_reducible refine wpQuiet_nil ?_);intro wq hwq;have hbq:=dY hwq;clear hwq)
     have HBW:=aa (HB1.out.trans (hbq.mono HB1.out.size));have H1W:=aa ((hbq.block _ (lt_of_block H11.out)).trans H11.out);clear hbq el0 es1 ea1 a1 s1 l0;go_wp2;go_roundw
     case rel=>exact ⟨k+1,by omega,by go_num,by rw [HALL.out];rfl,HBW.out,H1W.out⟩
     case measure=>simp [intOf];omega
    | false =>
     go_quiet (fail);go_wp2;go_roundw
     case rel=>exact ⟨k+1,by omega,by go_num,by rw [HALL.out];rfl,aT HB1.out _,H11.out⟩
     case measure=>simp [intOf];omega
   ·obtain rfl:k=s.Ga.length:=by omega
    rw [List.take_length];generalize s.Ga.all (fun a=>dO g a.on == s.length)=x at *;rw [HMB.out] at HSB;have s1:wr.cell? ⟨w.heap.size+1,1,none⟩=some (.int .i64 s.length):=by simp [World.cell?,H1.out]
    have s4:wr.cell? ⟨w.heap.size+1,4,none⟩=some (.int .i64 s.chunk):=by simp [World.cell?,H1.out]
    have cB:=(hB.cell (p:=⟨Bc,0,none⟩) hbc).trans HCC.out;obtain ⟨-,-,-,g3,-,-,-,-,-⟩:=bX.cells (sm:=sm) ((hB.block bc hbcl).trans HCB.out);have es1:=aG (World.block_lt_of_cell? wr _ s1) s1;have es4:=aG (World.block_lt_of_cell? wr _ s4) s4;have ecB:=aG (World.block_lt_of_cell? wr _ cB) cB;have eg3:=aG (World.block_lt_of_cell? wr _ g3) g3;have x1:=HX.out.1;have x2:=HX.out.2;have m0:0≤s.length*g.Gd:=Int.mul_nonneg (by omega) (by omega);have m1:s.length*g.Gd≤32768*1024:=Int.mul_le_mul hl1 x2 (by omega) (by omega);have w1:IntKind.i64.wrap (s.length*g.Gd)=s.length*g.Gd:=IntWalk.i64_in _ (by omega);have r0:0≤BZ g s:=Int.ediv_nonneg (by omega) (by omega);have r1:BZ g s≤s.length*g.Gd+s.chunk - 1:=Int.ediv_le_self _ (by omega);have HRN:Hid (BZ g s=_):=aa (BZ.eq_1 g s)
    go_upto_region 9 with (fail)
    (refine aU (by kernel_rfl) (by kernel_rfl) ?_;(repeat (go_big_quiet_step ((go_at_call 151;exact iH (tN _ _ _ (by omega) (by omega) (by omega) (by omega))))));(with_reducible refine wpQuiet_nil ?_);intro wq hwq;have hbq:=dY hwq;clear hwq)
    have HBW:=aa (hB.trans (hbq.mono hB.size));have H1W:=aa ((hbq.block _ (lt_of_block H1.out)).trans H1.out);clear hbq es1 es4 ecB eg3 s1 s4 cB g3 w1;rw [← HRN.out];generalize BZ g s=R at *;clear HRN
    go_upto_region 10 with (fail)
    cases x with
    | false =>
     rw [HSB.out] at HE;go_quiet (fail);go_wp2;go_ret;exact ⟨bB (by rw [HE.out];rfl),aT HBW.out _⟩
    | true =>
     have s6:wq.cell? ⟨w.heap.size+1,6,none⟩=some (.string s.log):=by simp [World.cell?,H1W.out]
     by_cases hle:s.log.toList.isEmpty=true
     ·rw [hle] at HSB
      rw [HSB.out] at HE;go_quiet (fail);go_wp2;go_ret;exact ⟨bB (by rw [HE.out];rfl),aT HBW.out _⟩
     ·have hle':s.log.toList.isEmpty=false:=by simpa using hle
      rw [hle'] at HSB;clear hle;have l0:=(HBW.out.cell (p:=⟨Bl,0,none⟩) hbl).trans HLL.out;have cB:=(HBW.out.cell (p:=⟨Bc,0,none⟩) hbc).trans HCC.out;obtain ⟨-,-,-,g3,-,-,-,-,-⟩:=bX.cells (sm:=sm) ((HBW.out.block bc hbcl).trans HCB.out);have el0:=aG (World.block_lt_of_cell? wq _ l0) l0;have es6:=aG (World.block_lt_of_cell? wq _ s6) s6;have ecB:=aG (World.block_lt_of_cell? wq _ cB) cB;have eg3:=aG (World.block_lt_of_cell? wq _ g3) g3;have lb:=HLB.out s.log;have lb0:=lb.1;have lb1:=lb.2;have HLE:Hid (∀ (p:fo),Calls Tryz.prog 148 #[.string s.log,.pointer (some ⟨Bc,0,none⟩)] (ext wq p) fun e w'=>e=.returned (.int .i64 (dO g s.log))∧Below (ext wq p).heap.size (ext wq p) w'):=aa fun p=>HLEN.out _ _ (bel HBW.out (dQ wq p));generalize dO g s.log=L at *;have v0:0≤L*g.Gd:=Int.mul_nonneg lb0 (by omega);have v1:L*g.Gd≤10000000*1024:=Int.mul_le_mul lb1 x2 (by omega) (by omega);have w1:IntKind.i64.wrap (L*g.Gd)=L*g.Gd:=IntWalk.i64_in _ (by omega);have y0:0≤(R+64 - 1) / 64:=Int.ediv_nonneg (by omega) (by omega);have y1:(R+64 - 1) / 64≤R+64 - 1:=Int.ediv_le_self _ (by omega);have w2:IntKind.i64.wrap (1+(R+64 - 1) / 64)=1+(R+64 - 1) / 64:=IntWalk.i64_in _ (by omega)
      (refine aU (by kernel_rfl) (by kernel_rfl) ?_;(repeat (go_big_quiet_step ((first | (go_at_call 151;exact iH (tN _ _ _ (by omega) (by omega) (by omega) (by omega))) | (go_at_call 148;exact iH (HLE.out _))))));(with_reducible refine wpQuiet_nil ?_);intro wq hwq;have hbq:=dY hwq;clear hwq)
      have HBX:=aa (HBW.out.trans (hbq.mono HBW.out.size));clear hbq el0 es6 ecB eg3 l0 cB g3 s6 w1 w2;rw [HSB.out] at HE;generalize 1+(R+64 - 1) / 64=X at *;generalize L*g.Gd=Y at *
      by_cases hc:X≤Y
      ·rw [decide_eq_true hc] at HE
       go_wp2;go_ret;exact ⟨bB (by rw [HE.out];rfl),HBX.out⟩
      ·rw [decide_eq_false hc] at HE
       go_wp2;go_ret;exact ⟨bB (by rw [HE.out];rfl),HBX.out⟩
 ·have h3b:(s.kind == 3)=false:=by simpa using h3
  rw [if_neg h3] at HSB;clear h3
  by_cases h4:s.kind=4
  ·have h4b:(s.kind == 4)=true:=by simpa using h4
   rw [if_pos h4] at HSB;have hn:=HFM.out.a4 h4;clear h4;obtain ⟨r0,hr0⟩:=aj s.Ga 0 (by omega);have ho:aOn s 0=r0.on:=by simp [aOn,hr0]
   rw [ho] at HSB;have HPB:Hid (ER g s=_):=aa (ER.eq_1 g s);rw [ho] at HPB;obtain ⟨b,off,us,rfl,_,hbw,hul,hvs,hcv⟩:=HAR.out.elem hr0;obtain rfl:us=_:=hvs;have Z1:=aa (hcv 1 _ rfl);clear hcv hul hr0 ho;have s3:=SL.out W2 H1.out 3 _ rfl
   go_upto_region 13 with (fail)
   clear s2 s3
   go_loopw [73,7] (fun i x wr=>∃ k:Nat,k≤s.Ga.length∧i=.int .i64 k∧x=.bool ((s.Ga.take k).all (fun a=>dO g a.on == dO g r0.on))∧Below w.heap.size w wr∧wr.heap[w.heap.size+1]?=some (.cells #[.int .i64 s.start,.int .i64 s.length,.int .i64 s.kind,.slice (some ⟨b,off,none⟩) s.Ga.length ac,.int .i64 s.chunk,.slice stp s.stale.length stc,.string s.log,.string s.pool,.int .i64 s.device,.int .i64 s.mode,.int .i64 s.done] 79 (0,0))) (fun i _ _=>s.Ga.length - (intOf i).toNat)
   case atStart=>exact ⟨0,Nat.zero_le _,rfl,rfl,HB2.out,H1.out⟩
   case round =>
    clear HB2 H1;obtain ⟨k,hk,rfl,rfl,hB,hx1⟩:=hrel;have H1:=aa hx1;clear hx1
    by_cases hlt:k<s.Ga.length
    ·obtain ⟨r,hr⟩:=aj s.Ga k hlt
     obtain ⟨b',off',us',e',_,hbw',hul',hvs',hcv'⟩:=HAR.out.elem hr;injection e' with e'
     injection e' with eb eo
     subst eb;subst eo;obtain rfl:us'=_:=hvs';have hbk:wr.heap[b]?=w.heap[b]?:=hB.block b hbw;have q0:=(World.cell?_of_block (a:=⟨b,off+k*3,none⟩) hbk).trans (hcv' 0 _ rfl);have q1:=(World.cell?_of_block (a:=⟨b,off+k*3+1,none⟩) hbk).trans (hcv' 1 _ rfl);have q2:=(World.cell?_of_block (a:=⟨b,off+k*3+2,none⟩) hbk).trans (hcv' 2 _ rfl);have HALL:Hid ((s.Ga.take (k+1)).all (fun a=>dO g a.on == dO g r0.on)=((s.Ga.take k).all (fun a=>dO g a.on == dO g r0.on)&&(dO g r.on == dO g r0.on))):=aa (by rw [take_snoc' s.Ga k r hr,List.all_append];simp);clear hcv' hul' hbk hbw' hr;have hA:=ae wr (.cells #[.bool r.vol,.string r.on,.int .i64 r.start] 60);have HBA:=aa (heap_alloc_new wr (.cells #[.bool r.vol,.string r.on,.int .i64 r.start] 60));have HB1:=aa (hB.trans (hA.mono hB.size));have H11:=aa ((hA.block _ (lt_of_block H1.out)).trans H1.out);clear hA;generalize (s.Ga.take k).all (fun a=>dO g a.on == dO g r0.on)=x at *
     go_upto_region 15 with (fail)
     generalize hW3:World.alloc wr _=W3 at *;generalize hB3:wr.heap.size=Ba at *;clear hW3 hB3 hB q0 q1 q2 H1;cases x with
     | true =>
      have a1:W3.cell? ⟨Ba,1,none⟩=some (.string r.on):=by simp [World.cell?,HBA.out]
      have s3:W3.cell? ⟨w.heap.size+1,3,none⟩=some (.slice (some ⟨b,off,none⟩) s.Ga.length ac):=by simp [World.cell?,H11.out]
      have l0:=(HB1.out.cell (p:=⟨Bl,0,none⟩) hbl).trans HLL.out;have z1:=(HB1.out.cell (p:=⟨b,off+0*3+1,none⟩) hbw).trans Z1.out;have el0:=aG (World.block_lt_of_cell? W3 _ l0) l0;have es3:=aG (World.block_lt_of_cell? W3 _ s3) s3;have ea1:=aG (World.block_lt_of_cell? W3 _ a1) a1;have ez1:=aG (World.block_lt_of_cell? W3 _ z1) z1;have HLE:Hid (∀ (p:fo) nm,Calls Tryz.prog 148 #[.string nm,.pointer (some ⟨Bc,0,none⟩)] (ext W3 p) fun e w'=>e=.returned (.int .i64 (dO g nm))∧Below (ext W3 p).heap.size (ext W3 p) w'):=aa fun p nm=>HLEN.out _ nm (bel HB1.out (dQ W3 p))
      (refine aU (by kernel_rfl) (by kernel_rfl) ?_;(repeat (go_big_quiet_step ((go_at_call 148;exact iH (HLE.out _ _)))));(with_reducible refine wpQuiet_nil ?_);intro wq hwq;have hbq:=dY hwq;clear hwq)
      have HBW:=aa (HB1.out.trans (hbq.mono HB1.out.size));have H1W:=aa ((hbq.block _ (lt_of_block H11.out)).trans H11.out);clear hbq el0 es3 ea1 ez1 a1 s3 l0 z1;go_wp2;go_roundw
      case rel=>exact ⟨k+1,by omega,by go_num,by rw [HALL.out];rfl,HBW.out,H1W.out⟩
      case measure=>simp [intOf];omega
     | false =>
      go_quiet (fail);go_wp2;go_roundw
      case rel=>exact ⟨k+1,by omega,by go_num,by rw [HALL.out];rfl,aT HB1.out _,H11.out⟩
      case measure=>simp [intOf];omega
    ·obtain rfl:k=s.Ga.length:=by omega
     rw [List.take_length];generalize s.Ga.all (fun a=>dO g a.on == dO g r0.on)=x at *;rw [HPB.out] at HSB;cases x with
     | true =>
      have s1:wr.cell? ⟨w.heap.size+1,1,none⟩=some (.int .i64 s.length):=by simp [World.cell?,H1.out]
      have s3:wr.cell? ⟨w.heap.size+1,3,none⟩=some (.slice (some ⟨b,off,none⟩) s.Ga.length ac):=by simp [World.cell?,H1.out]
      have l0:=(hB.cell (p:=⟨Bl,0,none⟩) hbl).trans HLL.out;have cB:=(hB.cell (p:=⟨Bc,0,none⟩) hbc).trans HCC.out;have z1:=(hB.cell (p:=⟨b,off+0*3+1,none⟩) hbw).trans Z1.out;obtain ⟨-,-,-,g3,-,-,-,-,-⟩:=bX.cells (sm:=sm) ((hB.block bc hbcl).trans HCB.out);have el0:=aG (World.block_lt_of_cell? wr _ l0) l0;have es1:=aG (World.block_lt_of_cell? wr _ s1) s1;have es3:=aG (World.block_lt_of_cell? wr _ s3) s3;have ecB:=aG (World.block_lt_of_cell? wr _ cB) cB;have eg3:=aG (World.block_lt_of_cell? wr _ g3) g3;have ez1:=aG (World.block_lt_of_cell? wr _ z1) z1;have HLE:Hid (∀ (p:fo) nm,Calls Tryz.prog 148 #[.string nm,.pointer (some ⟨Bc,0,none⟩)] (ext wr p) fun e w'=>e=.returned (.int .i64 (dO g nm))∧Below (ext wr p).heap.size (ext wr p) w'):=aa fun p nm=>HLEN.out _ nm (bel hB (dQ wr p));have lb:=HLB.out r0.on;have lb0:=lb.1;have lb1:=lb.2;have x1:=HX.out.1;have x2:=HX.out.2;generalize hL:dO g r0.on=L at *;have m0:0≤L*g.Gd:=Int.mul_nonneg lb0 (by omega);have m1:L*g.Gd≤10000000*1024:=Int.mul_le_mul lb1 x2 (by omega) (by omega);have w1:IntKind.i64.wrap (L*g.Gd)=L*g.Gd:=IntWalk.i64_in _ (by omega);have w2:IntKind.i64.wrap ((s.Ga.length:Int) - 1)=(s.Ga.length:Int) - 1:=IntWalk.i64_in _ (by omega);have n0:(((s.Ga.length:Int) - 1) == 0)=false:=by simp;omega
      have d0:s.length.tdiv ((s.Ga.length:Int) - 1)=s.length / ((s.Ga.length:Int) - 1):=Int.tdiv_eq_ediv_of_nonneg (by omega);have d1:0≤s.length / ((s.Ga.length:Int) - 1):=Int.ediv_nonneg (by omega) (by omega);have d2:s.length / ((s.Ga.length:Int) - 1)≤s.length:=Int.ediv_le_self _ (by omega);generalize s.length / ((s.Ga.length:Int) - 1)=D at *;have w3:IntKind.i64.wrap D=D:=IntWalk.i64_in _ (by omega);have m2:0≤D*g.Gd:=Int.mul_nonneg d1 (by omega);have m3:D*g.Gd≤32768*1024:=Int.mul_le_mul (by omega) x2 (by omega) (by omega);have w4:IntKind.i64.wrap (D*g.Gd)=D*g.Gd:=IntWalk.i64_in _ (by omega);have w5:IntKind.i64.wrap (D*g.Gd+16)=D*g.Gd+16:=IntWalk.i64_in _ (by omega);have HLE2:Hid (∀ (p:fo),Calls Tryz.prog 148 #[.string r0.on,.pointer (some ⟨Bc,0,none⟩)] (ext wr p) fun e w'=>e=.returned (.int .i64 L)∧Below (ext wr p).heap.size (ext wr p) w'):=aa fun p=>by rw [← hL];exact HLE.out p _
      clear HLE
      go_upto_region 17 with (fail)
      (refine aU (by kernel_rfl) (by kernel_rfl) ?_;(repeat (go_big_quiet_step ((go_at_call 148;exact iH (HLE2.out _)))));(with_reducible refine wpQuiet_nil ?_);intro wq hwq;have hbq:=dY hwq;clear hwq)
      have HBW:=aa (hB.trans (hbq.mono hB.size));clear hbq el0 es1 es3 ecB eg3 ez1 s1 s3 l0 cB z1 g3 w1 w2 w3 w4 w5 d0 n0;generalize D*g.Gd=X at *;generalize L*g.Gd=Y at *;rw [HSB.out] at HE
      by_cases hc:X+16≤Y
      ·rw [decide_eq_true hc] at HE
       go_wp2;go_ret;exact ⟨bB (by rw [HE.out];rfl),HBW.out⟩
      ·rw [decide_eq_false hc] at HE
       go_wp2;go_ret;exact ⟨bB (by rw [HE.out];rfl),HBW.out⟩
     | false =>
      rw [HSB.out] at HE
      go_upto_region 17 with (fail)
      go_quiet (fail);go_wp2;go_ret;exact ⟨bB (by rw [HE.out];rfl),aT hB _⟩
  ·have h4b:(s.kind == 4)=false:=by simpa using h4
   rw [if_neg h4] at HSB;clear h4
   by_cases h5:s.kind=5
   ·have h5b:(s.kind == 5)=true:=by simpa using h5
    rw [if_pos h5] at HSB;have hn:=HFM.out.fm.p5 h5;obtain ⟨r,hr⟩:=aj s.Ga 1 (by omega);have ho:aOn s 1=r.on:=by simp [aOn,hr]
    rw [ho] at HSB;obtain ⟨b,off,us,rfl,_,hbw,hul,hvs,hcv⟩:=HAR.out.elem hr;obtain rfl:us=_:=hvs;have q1:=(HB2.out.cell (p:=⟨b,off+1*3+1,none⟩) hbw).trans (hcv 1 _ rfl);have s1:=SL.out W2 H1.out 1 _ rfl;have s3:=SL.out W2 H1.out 3 _ rfl;have l0:=(HB2.out.cell (p:=⟨Bl,0,none⟩) hbl).trans HLL.out;have el0:=aG (World.block_lt_of_cell? W2 _ l0) l0;have es1:=aG (World.block_lt_of_cell? W2 _ s1) s1;have es3:=aG (World.block_lt_of_cell? W2 _ s3) s3;have eq1:=aG (World.block_lt_of_cell? W2 _ q1) q1;have HLE:Hid (∀ (p:fo) nm,Calls Tryz.prog 148 #[.string nm,.pointer (some ⟨Bc,0,none⟩)] (ext W2 p) fun e w'=>e=.returned (.int .i64 (dO g nm))∧Below (ext W2 p).heap.size (ext W2 p) w'):=aa fun p nm=>HLEN.out _ nm (bel HB2.out (dQ W2 p));clear hcv hul hr ho hbw
    go_upto_region 19 with (fail)
    (refine aU (by kernel_rfl) (by kernel_rfl) ?_;(repeat (go_big_quiet_step ((go_at_call 148;exact iH (HLE.out _ _)))));(with_reducible refine wpQuiet_nil ?_);intro wq hwq;have hbq:=dY hwq;clear hwq)
    have HBW:=aa (HB2.out.trans (hbq.mono HB2.out.size));clear hbq el0 es1 es3 eq1;generalize (dO g r.on == s.length)=x at *;rw [HSB.out] at HE;cases x with
    | true =>
     go_wp2;go_ret;exact ⟨bB (by rw [HE.out];rfl),HBW.out⟩
    | false =>
     go_wp2;go_ret;exact ⟨bB (by rw [HE.out];rfl),HBW.out⟩
   ·have h5b:(s.kind == 5)=false:=by simpa using h5
    rw [if_neg h5] at HSB;clear h5
    by_cases h7:s.kind=7
    ·have h7b:(s.kind == 7)=true:=by simpa using h7
     rw [if_pos h7] at HSB;have hn:=HFM.out.fm.p7 h7;obtain ⟨r,hr⟩:=aj s.Ga 0 (by omega);have ho:aOn s 0=r.on:=by simp [aOn,hr]
     rw [ho] at HSB;obtain ⟨b,off,us,rfl,_,hbw,hul,hvs,hcv⟩:=HAR.out.elem hr;obtain rfl:us=_:=hvs;have q1:=(HB2.out.cell (p:=⟨b,off+0*3+1,none⟩) hbw).trans (hcv 1 _ rfl);have s1:=SL.out W2 H1.out 1 _ rfl;have s3:=SL.out W2 H1.out 3 _ rfl;have l0:=(HB2.out.cell (p:=⟨Bl,0,none⟩) hbl).trans HLL.out;have el0:=aG (World.block_lt_of_cell? W2 _ l0) l0;have es1:=aG (World.block_lt_of_cell? W2 _ s1) s1;have es3:=aG (World.block_lt_of_cell? W2 _ s3) s3;have eq1:=aG (World.block_lt_of_cell? W2 _ q1) q1;have HLE:Hid (∀ (p:fo) nm,Calls Tryz.prog 148 #[.string nm,.pointer (some ⟨Bc,0,none⟩)] (ext W2 p) fun e w'=>e=.returned (.int .i64 (dO g nm))∧Below (ext W2 p).heap.size (ext W2 p) w'):=aa fun p nm=>HLEN.out _ nm (bel HB2.out (dQ W2 p));clear hcv hul hr ho hbw
     go_upto_region 21 with (fail)
     (refine aU (by kernel_rfl) (by kernel_rfl) ?_;(repeat (go_big_quiet_step ((go_at_call 148;exact iH (HLE.out _ _)))));(with_reducible refine wpQuiet_nil ?_);intro wq hwq;have hbq:=dY hwq;clear hwq)
     have HBW:=aa (HB2.out.trans (hbq.mono HB2.out.size));clear hbq el0 es1 es3 eq1;generalize (dO g r.on == s.length)=x at *;rw [HSB.out] at HE;cases x with
     | true =>
      go_wp2;go_ret;exact ⟨bB (by rw [HE.out];rfl),HBW.out⟩
     | false =>
      go_wp2;go_ret;exact ⟨bB (by rw [HE.out];rfl),HBW.out⟩
    ·have h7b:(s.kind == 7)=false:=by simpa using h7
     rw [if_neg h7] at HSB;rw [HSB.out] at HE;clear h7;go_wp2;go_ret;exact ⟨bB (by rw [HE.out];rfl),HB2.out⟩
def qG (g:af):ByteArray × Int:=bD (fun _ _ s=>xh g s) [] (aA g.F9)
theorem BS {ok:Nat→Prop}(g:af)(a:bN)(bc:Nat)(w:World)(hck:gY w bc g a)(hg:dN ok w g a)(hf:GFm g)(hlb:Cu g)(hss:∀ v∈g.F9,∀ s∈v.Gf,Ah s) :
  Calls Tryz.prog 88 #[.pointer (some ⟨bc,0,none⟩)] w (gX (qG g) w):=by
 have hA:=ae w (.cells #[.pointer (some ⟨bc,0,none⟩)] 137);have hB:=heap_alloc_new w (.cells #[.pointer (some ⟨bc,0,none⟩)] 137);have hA2:=ae (w.alloc (.cells #[.pointer (some ⟨bc,0,none⟩)] 137)) (.cells #[.func (.func 148) #[] #[.pointer (some ⟨w.heap.size,0,none⟩)]] 193);have HL:=aa (heap_alloc_new (w.alloc (.cells #[.pointer (some ⟨bc,0,none⟩)] 137)) (.cells #[.func (.func 148) #[] #[.pointer (some ⟨w.heap.size,0,none⟩)]] 193));have HB:=aa ((hA2.block _ (lt_of_block hB)).trans hB);have HA:=aa (hA.trans (hA2.mono hA.size));clear hA hA2 hB;have HCK:=aa (hck.below HA.out);have HG:=aa (hg.mv (Mv.of HA.out));have HF:=aa hf;have HLB:=aa hlb;have HSS:=aa hss;clear hck hg hf hlb hss;go_enter Tryz.func88,Tryz.ntmps88
 go_wp2_with fail
 generalize hW1:World.alloc (World.alloc w _) _=W1 at *;rw [World.size_alloc] at HL;have hne:w.heap.size<w.heap.size+1:=Nat.lt_succ_self _;generalize hBl:w.heap.size+1=Bl at *;generalize hBc:w.heap.size=Bc at *;clear hW1;refine (DD (ok:=ok) (F:=fun _=>False) g a bc (.pointer (some ⟨Bl,0,none⟩)) (.pointer (some ⟨Bc,0,none⟩)) (fun _ _ s=>xh g s) (fun _ _=>True) W1 HCK.out HG.out HF.out.sz (fun _ f=>f.elim) (fun _ _ _ _ _=>trivial) trivial ?_).mono ?_
 ·intro pre v s post hp W u1 u2 hm _ hv hs
  obtain ⟨m1,m2⟩:=jZ hp;have hb:=hm.none;refine (zb (ok:=ok) g a bc Bc Bl v s u1 u2 W (HCK.out.below hb) ((hb.cell (p:=⟨Bc,0,none⟩) (lt_of_block HB.out)).trans (by simp [World.cell?,HB.out])) (Nat.lt_of_lt_of_le (lt_of_block HB.out) hb.size) ((hb.cell (p:=⟨Bl,0,none⟩) (lt_of_block HL.out)).trans (by simp [World.cell?,HL.out])) (Nat.lt_of_lt_of_le (lt_of_block HL.out) hb.size) (HG.out.mv (Mv.of hb)) HF.out.sz HLB.out HF.out.ext hv hs (HSS.out v m1 s m2)).mono ?_;rintro e W' ⟨rfl,hb'⟩;exact ⟨rfl,Mod.of_below hb',fun _=>trivial⟩
 ·rintro e w2 ⟨rfl,hm,_⟩
  have HM:=aa hm;clear hm;have HR:Hid (qG g=_):=aa (qG.eq_1 g);go_wp2;go_ret2;subst hBc;exact ⟨by rw [HR.out];rfl,HA.out.trans (HM.out.none.mono HA.out.size)⟩
def uL (w:World)(b off:Nat)(l:List Bool):Prop:=∀ (i:Nat) (x:Bool),l[i]?=some x→w.cell? ⟨b,off+i,none⟩=some (.bool x)
theorem sJ (l:List Bool)(b off cap:Nat)(w:World)(h:uL w b off l)(hb:b<w.heap.size)(hl:l.length≤1000000) :
  Calls Tryz.prog 195 #[.slice (some ⟨b,off,none⟩) l.length cap,.bool true] w fun e w'=>(∃ r:Int,e=.returned (.int .i64 r)∧decide (0≤r)=l.any id)∧Below w.heap.size w w':=by
 have HH:=aa h;clear h;go_enter Tryz.func195,Tryz.ntmps195;go_wp2
 go_loopw [8,5] (fun i _ wr=>∃ k:Nat,k≤l.length∧i=.int .i64 k∧Below w.heap.size w wr∧(l.take k).any id=false) (fun i _ _=>l.length - (intOf i).toNat)
 case atStart=>exact ⟨0,Nat.zero_le _,rfl,Below.refl _ _,rfl⟩
 case round =>
  obtain ⟨k,hk,rfl,hB,hall⟩:=hrel;have HALL:=aa hall;clear hall
  by_cases hlt:k<l.length
  ·obtain ⟨x,hx⟩:=aj l k hlt
   have q0:=(hB.cell (p:=⟨b,off+k,none⟩) hb).trans (HH.out k x hx);have HANY:Hid ((l.take (k+1)).any id=x):=aa (by rw [take_snoc' l k x hx,List.any_append,HALL.out];simp);have HANY2:Hid (x=true→l.any id=true):=aa fun h=>List.any_eq_true.2 ⟨x,List.mem_of_getElem? hx,h⟩;clear hx HALL;cases x with
   | true =>
    have HR2:=aa (HANY2.out rfl);go_wp2;go_ret;exact ⟨⟨k,rfl,by rw [HR2.out];simp⟩,hB⟩
   | false =>
    have HR2:=aa HANY.out;go_wp2;go_roundw
    case rel=>exact ⟨k+1,by omega,by go_num,hB,HR2.out⟩
    case measure=>simp [intOf];omega
  ·obtain rfl:k=l.length:=by omega
   rw [List.take_length] at HALL;go_wp2;go_ret;exact ⟨⟨-1,rfl,by rw [HALL.out];rfl⟩,hB⟩
theorem oC (l:List Bool)(b off cap:Nat)(w:World)(h:uL w b off l)(hb:b<w.heap.size)(hl:l.length≤1000000) :
  Calls Tryz.prog 153 #[.slice (some ⟨b,off,none⟩) l.length cap,.bool true] w fun e w'=>e=.returned (.bool (l.any id))∧Below w.heap.size w w':=by
 go_enter Tryz.func153,Tryz.ntmps153
 go_wp2_with fail
 refine (sJ l b off cap w h hb hl).mono ?_;rintro e w2 ⟨⟨r,rfl,hr2⟩,hb2⟩;have HR:=aa hr2;clear hr2;have HB:=aa hb2;clear hb2;go_wp2;go_ret;exact ⟨ah HR.out,HB.out⟩
section
open Go Go.Maps Go.MapKept Go.ChangeMaps
variable {P:Program}{k:TypeId}{w w':World}{b n:Nat}{f:Value→Option Value}
end
attribute [local go_sem] run_makeMap_plain
theorem zq (w:World) :
  Calls Tryz.prog 82 #[] w fun e w'=>∃ b,e=.returned (.map (some b))∧bi Tryz.prog 3 w' b 10 eH∧Below w.heap.size w w':=by
 go_enter Tryz.func82,Tryz.ntmps82;have h0:=bi.made Tryz.prog 3 w;obtain ⟨w1,r1,h1,g1,z1⟩:=h0.store pF Tryz.underlying138 (by decide) (keyOf_int_mk (a:=1) Tryz.underlying3 (by decide)) (.agg #[.int .i64 1,.int .i64 1,.bool false,.bool true,.int .i64 0,.bool false,.bool false,.bool false,.bool false,.bool false]);obtain ⟨w2,r2,h2,g2,z2⟩:=h1.store pF Tryz.underlying138 (by decide) (keyOf_int_mk (a:=2) Tryz.underlying3 (by decide)) (.agg #[.int .i64 2,.int .i64 6,.bool false,.bool true,.int .i64 1,.bool false,.bool false,.bool false,.bool false,.bool false]);obtain ⟨w3,r3,h3,g3,z3⟩:=h2.store pF Tryz.underlying138 (by decide) (keyOf_int_mk (a:=3) Tryz.underlying3 (by decide)) (.agg #[.int .i64 2,.int .i64 6,.bool true,.bool false,.int .i64 1024,.bool true,.bool false,.bool true,.bool false,.bool false]);obtain ⟨w4,r4,h4,g4,z4⟩:=h3.store pF Tryz.underlying138 (by decide) (keyOf_int_mk (a:=4) Tryz.underlying3 (by decide)) (.agg #[.int .i64 3,.int .i64 6,.bool true,.bool false,.int .i64 1,.bool true,.bool false,.bool false,.bool false,.bool false]);obtain ⟨w5,r5,h5,g5,z5⟩:=h4.store pF Tryz.underlying138 (by decide) (keyOf_int_mk (a:=5) Tryz.underlying3 (by decide)) (.agg #[.int .i64 2,.int .i64 2,.bool true,.bool false,.int .i64 64,.bool false,.bool false,.bool false,.bool false,.bool false]);obtain ⟨w6,r6,h6,g6,z6⟩:=h5.store pF Tryz.underlying138 (by decide) (keyOf_int_mk (a:=6) Tryz.underlying3 (by decide)) (.agg #[.int .i64 0,.int .i64 0,.bool false,.bool false,.int .i64 0,.bool false,.bool true,.bool false,.bool false,.bool false]);obtain ⟨w7,r7,h7,g7,z7⟩:=h6.store pF Tryz.underlying138 (by decide) (keyOf_int_mk (a:=7) Tryz.underlying3 (by decide)) (.agg #[.int .i64 3,.int .i64 3,.bool true,.bool false,.int .i64 64,.bool false,.bool false,.bool false,.bool true,.bool false]);obtain ⟨w8,r8,h8,g8,z8⟩:=h7.store pF Tryz.underlying138 (by decide) (keyOf_int_mk (a:=8) Tryz.underlying3 (by decide)) (.agg #[.int .i64 2,.int .i64 2,.bool false,.bool true,.int .i64 0,.bool false,.bool false,.bool false,.bool false,.bool true]);obtain ⟨w9,r9,h9,g9,z9⟩:=h8.store pF Tryz.underlying138 (by decide) (keyOf_int_mk (a:=9) Tryz.underlying3 (by decide)) (.agg #[.int .i64 0,.int .i64 0,.bool false,.bool true,.int .i64 0,.bool false,.bool false,.bool false,.bool false,.bool false]);obtain ⟨w10,r10,h10,g10,z10⟩:=h9.store pF Tryz.underlying138 (by decide) (keyOf_int_mk (a:=10) Tryz.underlying3 (by decide)) (.agg #[.int .i64 0,.int .i64 0,.bool false,.bool true,.int .i64 0,.bool false,.bool false,.bool false,.bool false,.bool false]);have hB0:Below w.heap.size w (w.alloc (.map #[] 0)):=ae w _;go_wp2;go_ret;refine ⟨w.heap.size,rfl,h10.congr ?_,?_⟩
 ·intro key kl hk
  clear hk
  by_cases e10:key=.int .i64 10
  ·subst e10
   rw [upd_same];rfl
  rw [bP e10]
  by_cases e9:key=.int .i64 9
  ·subst e9
   rw [upd_same];rfl
  rw [bP e9]
  by_cases e8:key=.int .i64 8
  ·subst e8
   rw [upd_same];rfl
  rw [bP e8]
  by_cases e7:key=.int .i64 7
  ·subst e7
   rw [upd_same];rfl
  rw [bP e7]
  by_cases e6:key=.int .i64 6
  ·subst e6
   rw [upd_same];rfl
  rw [bP e6]
  by_cases e5:key=.int .i64 5
  ·subst e5
   rw [upd_same];rfl
  rw [bP e5]
  by_cases e4:key=.int .i64 4
  ·subst e4
   rw [upd_same];rfl
  rw [bP e4]
  by_cases e3:key=.int .i64 3
  ·subst e3
   rw [upd_same];rfl
  rw [bP e3]
  by_cases e2:key=.int .i64 2
  ·subst e2
   rw [upd_same];rfl
  rw [bP e2]
  by_cases e1:key=.int .i64 1
  ·subst e1
   rw [upd_same];rfl
  rw [bP e1];unfold eH;split
  ·rename_i q
   have f1:¬ q=1:=fun h=>e1 (by rw [h]);have f2:¬ q=2:=fun h=>e2 (by rw [h]);have f3:¬ q=3:=fun h=>e3 (by rw [h]);have f4:¬ q=4:=fun h=>e4 (by rw [h]);have f5:¬ q=5:=fun h=>e5 (by rw [h]);have f6:¬ q=6:=fun h=>e6 (by rw [h]);have f7:¬ q=7:=fun h=>e7 (by rw [h]);have f8:¬ q=8:=fun h=>e8 (by rw [h]);have f9:¬ q=9:=fun h=>e9 (by rw [h]);have f10:¬ q=10:=fun h=>e10 (by rw [h]);rw [shapeOf,if_neg f1,if_neg f2,if_neg f3,if_neg f4,if_neg f5,if_neg f6,if_neg f7,if_neg f8,if_neg f9,if_neg f10];rfl
  ·rfl
 ·have st:∀ W W':World,Below w.heap.size w W→W.grownBy W' (some w.heap.size)→Below w.heap.size w W':=fun W W' hb hg =>
   ⟨hg.os.trans hb.os,hg.tape.trans hb.tape,hg.output.trans hb.output,Nat.le_trans hb.size hg.size,fun k hk=>(hg.block k (Nat.lt_of_lt_of_le hk hb.size) (by intro h;injection h with h;omega)).trans (hb.block k hk)⟩
  exact (st _ _ (st _ _ (st _ _ (st _ _ (st _ _ (st _ _ (st _ _ (st _ _ (st _ _ (st _ _ hB0 g1) g2) g3) g4) g5) g6) g7) g8) g9) g10)
end Go.Proofs.YtjdfihglehfelaaGreatDoor
namespace Go.Proofs.YtjdfihglehfelaaGreatDoor
open Go.RowKit Go.Maps Go.Shelf
def iJ (l:List ByteArray)(nm:ByteArray):Nat:=l.countP fun x=>decide (x=nm)
def cntF (l:List ByteArray):Value→Option Value
 | .string s=>if iJ l s=0 then none else some (.int .i64 (iJ l s))
 | _=>none
theorem Dy (l:List ByteArray)(s:ByteArray):(cntF l (.string s)).getD (.int .i64 0)=.int .i64 (iJ l s):=by
 show (if iJ l s=0 then none else some (Value.int .i64 (iJ l s))).getD (.int .i64 0)=_
 by_cases h:iJ l s=0
 ·rw [if_pos h,h]
  rfl
 ·rw [if_neg h]
  rfl
theorem sV (l:List ByteArray)(x nm:ByteArray):iJ (l++[x]) nm=iJ l nm+if x=nm then 1 else 0:=by
 unfold iJ;rw [List.countP_append]
 by_cases h:x=nm <;> simp [h]
theorem Bw (l:List ByteArray)(x:ByteArray)(key:Value):cntF (l++[x]) key=upd (cntF l) (.string x) (.int .i64 ((iJ l x:Int)+1)) key:=by
 by_cases h:key=.string x
 ·subst h
  rw [upd_same];simp [cntF,sV]
 ·rw [bP h]
  unfold cntF;split
  ·rename_i s
   have:¬ x=s:=fun e=>h (by rw [e]);rw [sV,if_neg this];rfl
  ·rfl
def EJ (g:af)(pool:Bool):List ByteArray:=(aA g.F9).flatMap fun p=>dD p.2 pool
def yt (g:af)(v:ay):Int:=if v.hidden then (if iJ (EJ g true) v.name=1 then 0 else 16) else (if iJ (EJ g false) v.name=0 then 0 else 16)
def rY (g:af):ByteArray × Int:=iM (yt g) g.F9
theorem oM:Keyed Tryz.prog 9:=string_keyed Tryz.underlying9
theorem gG (s:ByteArray)(h:s.size≤maxLen):keyOf Tryz.prog 9 (.string s)=some (.string s.data.toList):=by
 simp [keyOf,Tryz.underlying9,mapKey,h]
theorem Fx (w:World):(zeroValue 3).run Tryz.prog w=.ok (.int .i64 0) w:=by kernel_rfl
def dA (l:List (ay × aB))(pool:Bool):List ByteArray:=l.flatMap fun p=>dD p.2 pool
theorem qW (l:List (ay × aB))(v:ay)(s:aB)(pool:Bool):dA (l++[(v,s)]) pool=dA l pool++dD s pool:=by simp [dA]
def gm (w:World)(b:Nat)(l:List ByteArray):Prop:=bi Tryz.prog 9 w b l.length (cntF l)
theorem gm.look {w:World}{b:Nat}{l:List ByteArray}(h:gm w b l)(s:ByteArray)(hs:s.size≤maxLen):(Instr.lookup 200 (.map (some b)) (.string s) false).run Tryz.prog w=.ok (.int .i64 (iJ l s)) w:=by
 have:=(bi.look h oM Tryz.underlying200 (Fx w) (key:=.string s) (gG s hs)).1
 rwa [Dy] at this
theorem gm.store {w:World}{b:Nat}{l:List ByteArray}(h:gm w b l)(hl:l.length≤1000000)(s:ByteArray)(hs:s.size≤maxLen) :
  ∃ w',(Instr.mapUpdate 200 (.map (some b)) (.string s) (.int .i64 ((iJ l s:Int)+1))).run Tryz.prog w=.ok () w'∧gm w' b (l++[s])∧w.grownBy w' (some b)∧w'.heap.size=w.heap.size:=by
 obtain ⟨w',r,m,g,z⟩:=bi.store h oM Tryz.underlying200 (Nat.lt_of_le_of_lt hl (by decide)) (key:=.string s) (gG s hs) (.int .i64 ((iJ l s:Int)+1));refine ⟨w',r,?_,g,z⟩;unfold gm;rw [List.length_append];exact m.congr fun key kl _=>Bw l s key
end Go.Proofs.YtjdfihglehfelaaGreatDoor
