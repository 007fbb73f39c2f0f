/- Lemmas: ModC. -/
import Derived.Test.YtjdfihglehfelaaGreatDoorPk14
set_option maxRecDepth 100000
set_option maxHeartbeats 32000000
set_option linter.all false
namespace Go.Proofs.YtjdfihglehfelaaGreatDoor
open Go.RowKit Go.Maps Go.Shelf Go.Sort
def uV {α:Type}(V:Rdr α)(sz:Nat)(ok:Nat→Prop)(l:List α)(w:World)(e:Ending)(w':World):Prop :=
 ∃ v,e=.returned v∧RdS V sz (fun b=>ok b∨w.heap.size≤b) w' [v] l∧Below w.heap.size w w'
theorem vB {α:Type}{V:Rdr α}{sz:Nat}{ok:Nat→Prop}{w:World}{v:Value}{l:List α}(h:RdS V sz ok w [v] l)(hl:¬ 0<l.length)(ok':Nat→Prop)(w':World):∃ p c,v=.slice p 0 c∧RdS V sz ok' w' [v] l:=by
 obtain ⟨p,cap,e,h1,h2,_⟩:=h;obtain rfl:=List.singleton_inj.1 e;have h0:l.length=0:=by omega
 exact ⟨p,cap,by rw [h0],p,cap,rfl,h1,h2,fun h=>absurd h hl⟩
theorem jy {α:Type}{V:Rdr α}{sz:Nat}{ok:Nat→Prop}{w:World}{b:Nat}(h1:∀ u x,V ok w u x→∀ z∈u,z.oneCell'=true):∀ (l:List α) (off:Nat),oh V sz ok w b off l→∃ cs,Flat V sz ok w cs l∧∀ (j:Nat) (z:Value),cs[j]?=some z→w.cell? ⟨b,off+j,none⟩=some z
 | [],off,_=>⟨[],rfl,fun j z h=>by simp at h⟩
 | x :: l,off,h=>by
  obtain ⟨u,hu,hv,hc⟩:=h 0 x rfl
  obtain ⟨cs,hf,hcs⟩:=jy h1 l (off+sz) (fun i y hy=>by
   obtain ⟨u',hu',hv',hc'⟩:=h (i+1) y (by simpa using hy);refine ⟨u',hu',hv',fun j z hz=>?_⟩;have:=hc' j z hz
   rwa [show off+(i+1)*sz+j=off+sz+i*sz+j from by rw [Nat.add_mul];omega] at this)
  refine ⟨u++cs,⟨u,cs,rfl,hu,hv,h1 u x hv,hf⟩,fun j z hz=>?_⟩
  by_cases hj:j<sz
  ·rw [List.getElem?_append_left (by omega)] at hz
   have:=hc j z hz
   rwa [Nat.zero_mul,Nat.add_zero] at this
  ·rw [List.getElem?_append_right (by omega),hu] at hz
   have:=hcs (j - sz) z hz
   rwa [show off+sz+(j - sz)=off+j from by omega] at this
theorem qZ {α:Type}{V:Rdr α}{sz:Nat}{ok:Nat→Prop}{w:World}:∀ (l:List α) (cs:List Value),Flat V sz ok w cs l→∀ y∈cs,y.oneCell'=true
 | [],_,hf,y,hy=>by
  simp only [Flat] at hf;subst hf;cases hy
 | _ :: l,_,⟨u,r,e,_,_,h3,h4⟩,y,hy=>by
  rw [e] at hy;rcases List.mem_append.1 hy with hy | hy
  ·exact h3 y hy
  ·exact qZ l r h4 y hy
theorem mH {α:Type}{V:Rdr α}(hV:Moves V){sz bytes:Nat}{ρ:Ren}(L:SlLaysE0.n41 Tryz.prog ρ){i0:TypeInfo}{z:Value}(hi:Tryz.prog.info? (ρ.t 23)=some i0)(hz0:i0.zero=some z)(hz1:i0.size=sz)(hz2:i0.bytes=bytes)(hzs:z.cells.size=sz)(hsz:0<sz)
  (hsize:∀ w,(Go.sizeOf (ρ.t 23)).run Tryz.prog w=.ok sz w) {ok:Nat→Prop} (l:List α) (v:Value) (w:World) (hr:RdS V sz ok w [v] l) (h1:∀ u x,V ok w u x→∀ y∈u,y.oneCell'=true) (hlen:l.length≤1000000) (hb:bytes≤1000) (h0:0<l.length) :
  Calls Tryz.prog (ρ.f 41) #[v] w (uV V sz ok l w):=by
 obtain ⟨p,cap,e,hlc,hcap,hp⟩:=hr;obtain rfl:=List.singleton_inj.1 e;obtain ⟨b,off,rfl,hbw,hob,hc⟩:=hp h0;obtain ⟨cs,hf,hcs⟩:=jy h1 l off hc;have hl:=Flat.length l cs hf;refine (AnyE.slices_Clone L i0 z sz bytes hi hz0 hz1 hz2 hzs hsz hsize b off l.length cap cs w hl (by unfold maxLen;omega) (by have:l.length*bytes≤1000000*1000:=Nat.mul_le_mul hlen hb;omega) hcs ?_).mono ?_
 ·exact qZ l cs hf
 ·rintro e w' ⟨v',rfl,ho,_,hb'⟩
  refine ⟨v',rfl,?_,hb'⟩;have hown:bF V sz (ρ.t 23) w.heap.size ok w' v' l:=⟨cs,ho,Flat.moves hV ⟨hb'.size,fun b hb ho=>⟨ho,hb'.block b hb⟩⟩ _ _ hf⟩;exact hown.rd hV hsz (fun b _ h=>.inl h) (fun b e=>.inr (World.ownsRow.lt ho b e).1)
theorem rD {ok:Nat→Prop}(l:List ByteArray)(v:Value)(w:World)(hr:RdS aF 1 ok w [v] l)(hlen:l.length≤1000000) :
  Calls Tryz.prog 103 #[v] w (uV aF 1 ok l w):=by
 by_cases h0:0<l.length
 ·obtain ⟨i0,hi,hz0,hz1,hz2⟩:=info_parts o5
  exact mH aF.moves Tryz.cloneS hi hz0 hz1 hz2 rfl (by decide) Tryz.sizeOf9 l v w hr (fun u x h y hy=>by obtain rfl:u=_:=h;obtain rfl:=List.mem_singleton.1 hy;rfl) hlen (by decide) h0
 ·obtain ⟨p,c,rfl,hr'⟩:=vB hr h0 (fun b=>ok b∨w.heap.size≤b) w
  clear hr;have HR:=aa hr';clear hr';have HN:Hid (l=[]):=aa (List.eq_nil_of_length_eq_zero (by omega));clear h0 hlen;cases p with
  | none =>
   refine (AnyE.slices_Clone_nil Tryz.cloneS _ _ w).mono ?_;rintro e w' ⟨rfl,rfl⟩;exact ⟨_,rfl,by rw [HN.out];exact RdS.nil,Below.refl _ _⟩
  | some a =>
   have q22:∀ (w:World) (a:Option Addr) (n c n' c':Nat),(binOp .eql 26 (.slice a n c) (.slice none n' c')).run Tryz.prog w=.ok (.bool a.isNone) w:=fun w a n c n' c'=>Lib.run_eql_slice_nil w _ _ a n c n' c' Tryz.underlying26;go_enter Tryz.func103,Tryz.ntmps103;go_wp2;go_ret;exact ⟨.slice (some ⟨w.heap.size,0,none⟩) 0 0,rfl,by rw [HN.out];exact ⟨some _,0,rfl,by simp,by omega,fun h=>absurd h (by simp)⟩,(RowKit.Below.refl _ _).alloc (Nat.le_refl _) _⟩
theorem zk {ok:Nat→Prop}(l:List Int)(v:Value)(w:World)(hr:RdS cO 1 ok w [v] l)(hlen:l.length≤1000000) :
  Calls Tryz.prog 197 #[v] w (uV cO 1 ok l w):=by
 by_cases h0:0<l.length
 ·obtain ⟨i0,hi,hz0,hz1,hz2⟩:=info_parts tZ
  exact mH cO.moves Tryz.cloneI hi hz0 hz1 hz2 rfl (by decide) Tryz.sizeOf3 l v w hr (fun u x h y hy=>by obtain rfl:u=_:=h;obtain rfl:=List.mem_singleton.1 hy;rfl) hlen (by decide) h0
 ·obtain ⟨p,c,rfl,hr'⟩:=vB hr h0 (fun b=>ok b∨w.heap.size≤b) w
  clear hr;have HR:=aa hr';clear hr';have HN:Hid (l=[]):=aa (List.eq_nil_of_length_eq_zero (by omega));clear h0 hlen;cases p with
  | none =>
   refine (AnyE.slices_Clone_nil Tryz.cloneI _ _ w).mono ?_;rintro e w' ⟨rfl,rfl⟩;exact ⟨_,rfl,by rw [HN.out];exact RdS.nil,Below.refl _ _⟩
  | some a =>
   have q22:∀ (w:World) (a:Option Addr) (n c n' c':Nat),(binOp .eql 22 (.slice a n c) (.slice none n' c')).run Tryz.prog w=.ok (.bool a.isNone) w:=fun w a n c n' c'=>Lib.run_eql_slice_nil w _ _ a n c n' c' Tryz.underlying22;go_enter Tryz.func197,Tryz.ntmps197;go_wp2;go_ret;exact ⟨.slice (some ⟨w.heap.size,0,none⟩) 0 0,rfl,by rw [HN.out];exact ⟨some _,0,rfl,by simp,by omega,fun h=>absurd h (by simp)⟩,(RowKit.Below.refl _ _).alloc (Nat.le_refl _) _⟩
theorem yS {ok:Nat→Prop}(l:List aR)(v:Value)(w:World)(hr:RdS aQ 3 ok w [v] l)(hlen:l.length≤1000000) :
  Calls Tryz.prog 196 #[v] w (uV aQ 3 ok l w):=by
 by_cases h0:0<l.length
 ·obtain ⟨i0,hi,hz0,hz1,hz2⟩:=info_parts kL
  exact mH aQ.moves Tryz.cloneA hi hz0 hz1 hz2 rfl (by decide) Tryz.sizeOf60 l v w hr (fun u x h y hy=>by obtain rfl:u=_:=h;simp only [List.mem_cons,List.not_mem_nil,or_false] at hy;rcases hy with rfl | rfl | rfl <;> rfl) hlen (by decide) h0
 ·obtain ⟨p,c,rfl,hr'⟩:=vB hr h0 (fun b=>ok b∨w.heap.size≤b) w
  clear hr;have HR:=aa hr';clear hr';have HN:Hid (l=[]):=aa (List.eq_nil_of_length_eq_zero (by omega));clear h0 hlen;cases p with
  | none =>
   refine (AnyE.slices_Clone_nil Tryz.cloneA _ _ w).mono ?_;rintro e w' ⟨rfl,rfl⟩;exact ⟨_,rfl,by rw [HN.out];exact RdS.nil,Below.refl _ _⟩
  | some a =>
   have q22:∀ (w:World) (a:Option Addr) (n c n' c':Nat),(binOp .eql 57 (.slice a n c) (.slice none n' c')).run Tryz.prog w=.ok (.bool a.isNone) w:=fun w a n c n' c'=>Lib.run_eql_slice_nil w _ _ a n c n' c' Tryz.underlying57;go_enter Tryz.func196,Tryz.ntmps196;go_wp2;go_ret;exact ⟨.slice (some ⟨w.heap.size,0,none⟩) 0 0,rfl,by rw [HN.out];exact ⟨some _,0,rfl,by simp,by omega,fun h=>absurd h (by simp)⟩,(RowKit.Below.refl _ _).alloc (Nat.le_refl _) _⟩
theorem CO {P:Program}{ops:Array Oper}{Q:Exit→Act→World→Prop}{l:List Oper}{a:Act}{w:World}(h:Hid (wpList P ops Q l a w)):wpList P ops Q l a w:=h.out
structure qD (v:ay):Prop where
 tags:v.tags.length≤1000000
 Gf:v.Gf.length≤1000000
 seg:∀ s∈v.Gf,s.Ga.length≤1000000∧s.stale.length≤1000000
def D8 (ok:Nat→Prop)(v:ay)(w:World)(u:List Value)(w':World):Prop:=aN (fun b=>ok b∨w.heap.size≤b) w' u v∧Below w.heap.size w w'
def Eu (ok:Nat→Prop)(v:ay)(w:World)(e:Ending)(w':World):Prop:=∃ u,e=.returned (.agg u.toArray)∧D8 ok v w u w'
def okC (ok:Nat→Prop)(L Z:Nat)(sv:Value):Nat→Prop:=fun b=>(ok b∧b<L)∨(Z≤b∧sv.ownBlock≠some b)
theorem pO {ok:Nat→Prop}(v:ay)(u:List Value)(w:World)(hv:aN ok w u v)(hz:qD v) :
  Calls Tryz.prog 156 #[.agg u.toArray] w (Eu ok v w):=by
 obtain ⟨tv,sv,rfl,htr,hsr⟩:=hv;obtain ⟨tp,tc,rfl,_,_⟩:=htr.cap;obtain ⟨sp,sc,rfl,hsc1,hsc2⟩:=hsr.cap;have hz1:=hz.tags;have hz2:=hz.Gf;have HZ:=aa hz.seg;clear hz;have HT:=aa htr;clear htr;have HS:=aa hsr;clear hsr;have hb2:=(ae w (.cells #[.string v.name,.int .u64 v.id,.bool v.hidden,.bool v.ro,.slice tp v.tags.length tc,.slice sp v.Gf.length sc] 55)).trans ((ae (w.alloc (.cells #[.string v.name,.int .u64 v.id,.bool v.hidden,.bool v.ro,.slice tp v.tags.length tc,.slice sp v.Gf.length sc] 55)) (.cells #[.string ⟨#[]⟩,.int .u64 0,.bool false,.bool false,.slice none 0 0,.slice none 0 0] 55)).mono (ae w _).size);have h0:((w.alloc (.cells #[.string v.name,.int .u64 v.id,.bool v.hidden,.bool v.ro,.slice tp v.tags.length tc,.slice sp v.Gf.length sc] 55)).alloc (.cells #[.string ⟨#[]⟩,.int .u64 0,.bool false,.bool false,.slice none 0 0,.slice none 0 0] 55)).heap[w.heap.size]?=some (.cells #[.string v.name,.int .u64 v.id,.bool v.hidden,.bool v.ro,.slice tp v.tags.length tc,.slice sp v.Gf.length sc] 55 (0,0)):=(Below.heap_alloc _ _ _ (by simp)).trans (heap_alloc_new w _)
 have h1:((w.alloc (.cells #[.string v.name,.int .u64 v.id,.bool v.hidden,.bool v.ro,.slice tp v.tags.length tc,.slice sp v.Gf.length sc] 55)).alloc (.cells #[.string ⟨#[]⟩,.int .u64 0,.bool false,.bool false,.slice none 0 0,.slice none 0 0] 55)).heap[w.heap.size+1]?=some (.cells #[.string ⟨#[]⟩,.int .u64 0,.bool false,.bool false,.slice none 0 0,.slice none 0 0] 55 (0,0)):=by
  have:=heap_alloc_new (w.alloc (.cells #[.string v.name,.int .u64 v.id,.bool v.hidden,.bool v.ro,.slice tp v.tags.length tc,.slice sp v.Gf.length sc] 55)) (.cells #[.string ⟨#[]⟩,.int .u64 0,.bool false,.bool false,.slice none 0 0,.slice none 0 0] 55);rw [World.size_alloc] at this;exact this
 have HZ2:Hid (((w.alloc (.cells #[.string v.name,.int .u64 v.id,.bool v.hidden,.bool v.ro,.slice tp v.tags.length tc,.slice sp v.Gf.length sc] 55)).alloc (.cells #[.string ⟨#[]⟩,.int .u64 0,.bool false,.bool false,.slice none 0 0,.slice none 0 0] 55)).heap.size=w.heap.size+2):=aa (by simp);have HB2:=aa hb2;clear hb2;have H0:=aa h0;clear h0;have H1:=aa h1;clear h1;go_enter Tryz.func156,Tryz.ntmps156
 go_wp2_with fail
 generalize hW2:World.alloc (World.alloc w _) _=W2 at *;clear hW2;have hz22:W2.heap.size=w.heap.size+2:=HZ2.out;refine (rD (ok:=fun b=>ok b∧b<w.heap.size) v.tags _ _ ((RdS.moves aF.moves).mv ⟨HB2.out.size,fun b hb ho=>⟨⟨ho,hb⟩,HB2.out.block b hb⟩⟩ HT.out) hz1).mono ?_;rintro e w3 ⟨tv',rfl,htr3,hb3⟩;obtain ⟨tp',tc',rfl,_,_⟩:=htr3.cap;have hl2:w.heap.size+1<W2.heap.size:=lt_of_block H1.out;have HB3:=aa (HB2.out.trans (hb3.mono HB2.out.size));have hz3:w.heap.size+2≤w3.heap.size:=by have:=hb3.size;omega
 have HT3:Hid (RdS aF 1 (fun b=>(ok b∧b<w.heap.size)∨(w.heap.size+2≤b∧b<w3.heap.size)) w3 [.slice tp' v.tags.length tc'] v.tags):=aa ((RdS.moves aF.moves).mv ⟨Nat.le_refl _,fun b hb ho=>⟨ho.imp id (fun q=>⟨by omega,hb⟩),rfl⟩⟩ htr3);have h03:=(hb3.block _ (by omega)).trans H0.out;have H13:=aa ((hb3.block _ hl2).trans H1.out);clear hb3 htr3 H0 H1 HB2 HT;have f4:∀ i,w3.frozen? ⟨w.heap.size,i,none⟩=false:=fun i=>by simp [World.frozen?,h03]
 have y4:w3.cell? ⟨w.heap.size,4,none⟩=some (.slice tp v.tags.length tc):=by simp [World.cell?,h03]
 have y5:w3.cell? ⟨w.heap.size,5,none⟩=some (.slice sp v.Gf.length sc):=by simp [World.cell?,h03]
 have H03:=aa h03;clear h03
 go_upto_region 4 with (fail)
 clear y4 y5 f4;have HBK:=aa (block_setCell (i:=5) (.slice none 0 0) (block_setCell (w:=w3) (i:=4) (.slice tp' v.tags.length tc') H03.out));generalize hW4:World.setCell (World.setCell w3 _ _) _ _=W4 at *;have hk4:∀ k,k≠w.heap.size→W4.heap[k]?=w3.heap[k]?:=fun k hk=>by rw [← hW4,Below.heap_setCell _ _ _ _ hk,Below.heap_setCell _ _ _ _ hk]
 have hs4:W4.heap.size=w3.heap.size:=by rw [← hW4];simp [World.setCell]
 have HB4:Hid (Below w.heap.size w W4):=aa (by rw [← hW4];exact (HB3.out.setCell (p:=⟨w.heap.size,4,none⟩) (Nat.le_refl _) _).setCell (p:=⟨w.heap.size,5,none⟩) (Nat.le_refl _) _);have H14:Hid (W4.heap[w.heap.size+1]?=_):=aa ((hk4 _ (by omega)).trans H13.out);have HT4:Hid (RdS aF 1 (fun b=>(ok b∧b<w.heap.size)∨(w.heap.size+2≤b∧b<w3.heap.size)) W4 [.slice tp' v.tags.length tc'] v.tags):=aa ((RdS.moves aF.moves).mv ⟨by omega,fun b hb ho=>⟨ho,hk4 b (by rcases ho with q | q <;> omega)⟩⟩ HT3.out)
 clear hW4 hk4 HT3 H13 H03 HB3;generalize hZ:w3.heap.size=Z at *;clear hZ;have HBK':Hid (W4.heap[w.heap.size]?=some (.cells #[.string v.name,.int .u64 v.id,.bool v.hidden,.bool v.ro,.slice tp' v.tags.length tc',.slice none 0 0] 55 (0,0))):=HBK;clear HBK;go_wp2
 go_loopw [15] (fun i wr=>∃ (k:Nat) (sv:Value),k≤v.Gf.length∧i=.int .i64 k∧wr.heap[w.heap.size]?=some (.cells #[.string v.name,.int .u64 v.id,.bool v.hidden,.bool v.ro,.slice tp' v.tags.length tc',sv] 55 (0,0)) ∧
   wr.heap[w.heap.size+1]?=some (.cells #[.string ⟨#[]⟩,.int .u64 0,.bool false,.bool false,.slice none 0 0,.slice none 0 0] 55 (0,0))∧bF bC 11 79 Z (okC ok w.heap.size Z sv) wr sv (v.Gf.take k) ∧
   RdS aF 1 (fun b=>(ok b∧b<w.heap.size)∨(w.heap.size+2≤b∧b<Z)) wr [.slice tp' v.tags.length tc'] v.tags∧Below w.heap.size w wr∧Z≤wr.heap.size) (fun i _=>v.Gf.length - (intOf i).toNat)
 case atStart=>exact ⟨0,_,Nat.zero_le _,rfl,HBK'.out,H14.out,⟨[],World.ownsRow_nil _ _ _ _,rfl⟩,HT4.out,HB4.out,by omega⟩
 case round =>
  clear HBK' H14 HT4 HB4;obtain ⟨k,sv,hk,rfl,hbx,hrx,hown,htr,hB,hZ⟩:=hrel;have HBX:=aa hbx;clear hbx;have HRX:=aa hrx;clear hrx;have HOW:=aa hown;clear hown;have HTR:=aa htr;clear htr
  by_cases hlt:k<v.Gf.length
  ·obtain ⟨s,hs⟩:=aj v.Gf k hlt
   have hsz:=HZ.out s (List.mem_of_getElem? hs);have hsz1:=hsz.1;have hsz2:=hsz.2;obtain ⟨b,off,us,rfl,hob,hbw,hul,hvs,hcv⟩:=HS.out.elem hs;obtain ⟨av,stv,rfl,har,hst⟩:=hvs;obtain ⟨ap,ac,rfl,_,_⟩:=har.cap;obtain ⟨stp,stc,rfl,_,_⟩:=hst.cap;have hbk:wr.heap[b]?=w.heap[b]?:=hB.block b hbw;have q0:=bK hbk (hcv 0 _ rfl);have q1:=ai hbk (hcv 1 _ rfl);have q2:=ai hbk (hcv 2 _ rfl);have q3:=ai hbk (hcv 3 _ rfl);have q4:=ai hbk (hcv 4 _ rfl);have q5:=ai hbk (hcv 5 _ rfl);have q6:=ai hbk (hcv 6 _ rfl);have q7:=ai hbk (hcv 7 _ rfl);have q8:=ai hbk (hcv 8 _ rfl);have q9:=ai hbk (hcv 9 _ rfl);have q10:=ai hbk (hcv 10 _ rfl);have HN:=aa (take_snoc' v.Gf k s hs);have HAR:=aa har;clear har;have HST:=aa hst;clear hst;clear hcv hul hs hbk hsz
   go_upto_region 7 with (fail)
   clear q0 q1 q2 q3 q4 q5 q6 q7 q8 q9 q10;have hSB:=heap_alloc_new wr (.cells #[.int .i64 s.start,.int .i64 s.length,.int .i64 s.kind,.slice ap s.Ga.length ac,.int .i64 s.chunk,.slice stp s.stale.length stc,.string s.log,.string s.pool,.int .i64 s.device,.int .i64 s.mode,.int .i64 s.done] 79);have hz5:(wr.alloc (.cells #[.int .i64 s.start,.int .i64 s.length,.int .i64 s.kind,.slice ap s.Ga.length ac,.int .i64 s.chunk,.slice stp s.stale.length stc,.string s.log,.string s.pool,.int .i64 s.device,.int .i64 s.mode,.int .i64 s.done] 79)).heap.size=wr.heap.size+1:=by simp
   have hk5:=ae wr (.cells #[.int .i64 s.start,.int .i64 s.length,.int .i64 s.kind,.slice ap s.Ga.length ac,.int .i64 s.chunk,.slice stp s.stale.length stc,.string s.log,.string s.pool,.int .i64 s.device,.int .i64 s.mode,.int .i64 s.done] 79);have HSB:=aa hSB;clear hSB;have HK5:=aa hk5;clear hk5;generalize hW5:World.alloc wr _=W5 at *;generalize hBs:wr.heap.size=Bs at *;clear hW5
   have hS:∀ w':World,Below W5.heap.size W5 w'→w'.cell? ⟨Bs,3,none⟩=some (.slice ap s.Ga.length ac)∧w'.cell? ⟨Bs,5,none⟩=some (.slice stp s.stale.length stc):=fun w' hb=>by
    have:=(hb.block _ (lt_of_block HSB.out)).trans HSB.out;exact ⟨by simp [World.cell?,this],by simp [World.cell?,this]⟩
   have HSS:=aa hS;clear hS;refine aL (fun w'=>w'.cell? ⟨Bs,3,none⟩=some (.slice ap s.Ga.length ac)∧w'.cell? ⟨Bs,5,none⟩=some (.slice stp s.stale.length stc)) 7 [] (by kernel_rfl) (HSS.out _ (Below.refl _ _).drew) (fun hHeld=>?_);refine tkF 0 hHeld ?_;try simp only [ak];refine tkF 1 hHeld ?_;try simp only [ak];refine tkF 3 hHeld ?_;try simp only [ak];refine tkF 4 hHeld ?_;try simp only [ak];refine au (i:=2) rfl rfl (by kernel_rfl) (fun K hK=>?_);go_simp;have HB5:Hid (Below w.heap.size w W5.drew):=aa ((hB.trans (HK5.out.mono (by have:=hB.size;omega))).drew);refine (yS (ok:=fun b=>ok b∧b<w.heap.size) s.Ga _ _ ((RdS.moves aQ.moves).mv ⟨HB5.out.size,fun b hb ho=>⟨⟨ho,hb⟩,HB5.out.block b hb⟩⟩ HAR.out) hsz1).mono ?_;rintro e w6 ⟨av',rfl,har6,hb6⟩;obtain ⟨ap',ac',rfl,_,_⟩:=har6.cap;have HB56:Hid (Below W5.heap.size W5 w6):=aa ⟨hb6.os,hb6.tape,hb6.output,hb6.size,hb6.block⟩;refine hK.out _ _ (HSS.out _ HB56.out) ?_;clear hK K hHeld;have hHeld:=HSS.out _ HB56.out;refine tkF 6 hHeld ?_;try simp only [ak];refine au (i:=5) rfl rfl (by kernel_rfl) (fun K hK=>?_);go_simp;have HB6:Hid (Below w.heap.size w w6):=aa (HB5.out.trans (hb6.mono HB5.out.size));refine (zk (ok:=fun b=>ok b∧b<w.heap.size) s.stale _ _ ((RdS.moves cO.moves).mv ⟨HB6.out.size,fun b hb ho=>⟨⟨ho,hb⟩,HB6.out.block b hb⟩⟩ HST.out) hsz2).mono ?_;rintro e w7 ⟨stv',rfl,hst7,hb7⟩;obtain ⟨stp',stc',rfl,_,_⟩:=hst7.cap;have HB57:Hid (Below W5.heap.size W5 w7):=aa (HB56.out.trans (hb7.mono HB56.out.size));refine hK.out _ _ (HSS.out _ HB57.out) ?_;clear hK K hHeld;refine aP (by kernel_rfl) rfl ?_;simp only [List.drop_succ_cons,List.drop_zero];have h7b:=(HB57.out.block _ (lt_of_block HSB.out)).trans HSB.out;have g3:w7.cell? ⟨Bs,3,none⟩=some (.slice ap s.Ga.length ac):=by simp [World.cell?,h7b]
   have g5:w7.cell? ⟨Bs,5,none⟩=some (.slice stp s.stale.length stc):=by simp [World.cell?,h7b]
   have gf:∀ i,w7.frozen? ⟨Bs,i,none⟩=false:=fun i=>by simp [World.frozen?,h7b]
   go_upto_region 8 with (fail)
   have hBsZ:Z≤Bs:=by omega
   have hz7:Bs+1≤w7.heap.size:=by have:=HB57.out.size;omega
   have HBlk:=aa (block_setCell (i:=5) (.slice stp' s.stale.length stc') (block_setCell (w:=w7) (i:=3) (.slice ap' s.Ga.length ac') h7b));clear g3 g5 gf h7b;generalize hW8:World.setCell (World.setCell w7 _ _) _ _=W8 at *;have hk8:∀ k,k≠Bs→W8.heap[k]?=w7.heap[k]?:=fun k hk=>by rw [← hW8,Below.heap_setCell _ _ _ _ hk,Below.heap_setCell _ _ _ _ hk]
   have hs8:W8.heap.size=w7.heap.size:=by rw [← hW8];simp [World.setCell]
   have hB8:Below Bs wr W8:=by
    rw [← hW8];exact (((HK5.out.trans (HB57.out.mono (by omega))).setCell (p:=⟨Bs,3,none⟩) (Nat.le_refl _) _).setCell (p:=⟨Bs,5,none⟩) (Nat.le_refl _) _)
   have HS8:=aa hs8;clear hW8;have HB8:=aa hB8;clear hB8;have hwz:=hB.size;have HB8w:Hid (Below w.heap.size w W8):=aa (hB.trans (HB8.out.mono (by omega)));have HBlk':Hid (W8.heap[Bs]?=some (.cells #[.int .i64 s.start,.int .i64 s.length,.int .i64 s.kind,.slice ap' s.Ga.length ac',.int .i64 s.chunk,.slice stp' s.stale.length stc',.string s.log,.string s.pool,.int .i64 s.device,.int .i64 s.mode,.int .i64 s.done] 79 (0,0))):=HBlk;clear HBlk
   have gL:∀ (j:Nat) (z:Value),[.int .i64 s.start,.int .i64 s.length,.int .i64 s.kind,.slice ap' s.Ga.length ac',.int .i64 s.chunk,.slice stp' s.stale.length stc',.string s.log,.string s.pool,.int .i64 s.device,.int .i64 s.mode,.int .i64 s.done][j]?=some z→W8.cell? ⟨Bs,j,none⟩=some z:=fun j z hz=>by
    simp only [World.cell?,HBlk'.out];simpa using hz
   have g0:=gL 0 _ rfl;have g1:=gL 1 _ rfl;have g2:=gL 2 _ rfl;have g3:=gL 3 _ rfl;have g4:=gL 4 _ rfl;have g5:=gL 5 _ rfl;have g6:=gL 6 _ rfl;have g7:=gL 7 _ rfl;have g8:=gL 8 _ rfl;have g9:=gL 9 _ rfl;have g10:=gL 10 _ rfl;clear gL;have HBX8:=aa ((HB8.out.block _ (by omega)).trans HBX.out);have HRX8:=aa ((HB8.out.block _ (by omega)).trans HRX.out);have b5:W8.cell? ⟨w.heap.size,5,none⟩=some sv:=by simp [World.cell?,HBX8.out]
   have b5f:W8.frozen? ⟨w.heap.size,5,none⟩=false:=by simp [World.frozen?,HBX8.out]
   have HOlt:Hid (∀ g,sv.ownBlock=some g→Z≤g∧g<Bs):=aa fun g e=>by
    obtain ⟨cs,ho,_⟩:=HOW.out;have:=World.ownsRow.lt ho g e;omega
   -- the new element,and the slice so far,in whatever world comes of new blocks
   have HEl:Hid (∀ W:World,Below W8.heap.size W8 W→bC (fun b=>okC ok w.heap.size Z sv b∧b<W8.heap.size) W [.int .i64 s.start,.int .i64 s.length,.int .i64 s.kind,.slice ap' s.Ga.length ac',.int .i64 s.chunk,.slice stp' s.stale.length stc',.string s.log,.string s.pool,.int .i64 s.device,.int .i64 s.mode,.int .i64 s.done] s ∧
     bF bC 11 79 Z (fun b=>okC ok w.heap.size Z sv b∧b<W8.heap.size) W sv (v.Gf.take k)):=aa fun W hW=>by
    have k8:∀ b,b<W8.heap.size→W.heap[b]?=W8.heap[b]?:=fun b hb=>hW.block b hb
    have far:∀ b,((ok b∧b<w.heap.size)∨Bs+1≤b)→b<W8.heap.size→(okC ok w.heap.size Z sv b∧b<W8.heap.size)∧b≠Bs:=fun b hb hl=>by
     rcases hb with hb | hb
     ·exact ⟨⟨.inl hb,hl⟩,by omega⟩
     ·exact ⟨⟨.inr ⟨by omega,fun e=>by have:=HOlt.out b e;omega⟩,hl⟩,by omega⟩
    refine ⟨⟨_,_,rfl,(RdS.moves aQ.moves).mv ⟨?_,fun b hb ho=>?_⟩ har6,(RdS.moves cO.moves).mv ⟨?_,fun b hb ho=>?_⟩ hst7⟩,?_⟩
    ·have:=hb7.size;have:=hW.size;omega
    ·have hl:b<W8.heap.size:=by have:=hb7.size;omega
     obtain ⟨f1,f2⟩:=far b (ho.imp id (fun q=>by have:W5.heap.size≤b:=q;omega)) hl;exact ⟨f1,(k8 b hl).trans ((hk8 b f2).trans (hb7.block b hb))⟩
    ·have:=hW.size;omega
    ·have hl:b<W8.heap.size:=by omega
     obtain ⟨f1,f2⟩:=far b (ho.imp id (fun q=>by have:=hb6.size;have:W5.heap.size≤w6.heap.size:=HB56.out.size;omega)) hl;exact ⟨f1,(k8 b hl).trans (hk8 b f2)⟩
    ·obtain ⟨cs,ho,hf⟩:=HOW.out
     have hm:∀ b,b<wr.heap.size→W.heap[b]?=wr.heap[b]?:=fun b hb=>(k8 b (by omega)).trans (HB8.out.block b (by omega));exact ⟨cs,aC ho (fun g e=>hm g (World.ownsRow.lt ho g e).2),Flat.moves bC.moves ⟨by have:=hW.size;omega,fun b hb h=>⟨⟨h,by omega⟩,hm b hb⟩⟩ _ _ hf⟩
   clear hb6 hb7 har6 hst7 HOW;obtain ⟨i0,hi,hz0,hz1',hz2'⟩:=info_parts Am;have HI0:=aa hi;clear hi;have HI1:=aa hz0;clear hz0;have HI2:=aa hz1';clear hz1';have HI3:=aa hz2';clear hz2';have hkl:(v.Gf.take k).length≤1000000:=by rw [List.length_take];omega
   clear hs8
   go_wp2_with (at_builtin;refine CO ?_)
   refine aa ?_;refine dX bC.moves Tryz.underlying53 HI0.out HI1.out HI2.out HI3.out rfl (by decide) (by decide) rfl _ _ rfl Z (fun b=>okC ok w.heap.size Z sv b∧b<W8.heap.size) sv (v.Gf.take k) s rfl (HEl.out _ (ae _ _)).2 W8.heap.size 1 [.int .i64 s.start,.int .i64 s.length,.int .i64 s.kind,.slice ap' s.Ga.length ac',.int .i64 s.chunk,.slice stp' s.stale.length stc',.string s.log,.string s.pool,.int .i64 s.device,.int .i64 s.mode,.int .i64 s.done] rfl rfl (HEl.out _ (ae _ _)).1 (by simp [Value.oneCell']) (fun j y hy=>aD rfl (by simpa using hy)) hkl ?c1 ?c2 ?_
   case c1=>have:=HS8.out;simp;omega
   case c2=>exact fun b e h=>(h.1.elim (fun q=>by have:=HOlt.out b e;omega) (fun q=>q.2 e))
   intro gb cap w9 hp;have hg9:=hp.grown;have hz8:=HS8.out;have hz9:W8.heap.size+1≤w9.heap.size:=by have:=hg9.size;simpa using this
   have k9:∀ b,b<W8.heap.size→sv.ownBlock≠some b→w9.heap[b]?=W8.heap[b]?:=fun b hb hn=>(hg9.block b (by simp;omega) (fun e=>hn e.symm)).trans (Below.heap_alloc _ _ _ hb)
   have hgb:Z≤gb∧(sv.ownBlock=some gb∨W8.heap.size<gb):=by
    rcases hp.at' with q | q
    ·exact ⟨(HOlt.out gb q).1,.inl q⟩
    ·exact ⟨by rw [q];simp;omega,.inr (by rw [q];simp)⟩
   have nL:sv.ownBlock≠some w.heap.size:=fun e=>by have:=HOlt.out _ e;omega
   have hx9:=(k9 w.heap.size (by omega) nL).trans HBX8.out;have HX9:=aa hx9;have b5:w9.cell? ⟨w.heap.size,5,none⟩=some sv:=by simp [World.cell?,hx9]
   have b5f:w9.frozen? ⟨w.heap.size,5,none⟩=false:=by simp [World.frozen?,hx9]
   have hB9:Below w.heap.size w w9:=by
    have:=(HB8w.out.alloc (by omega) (.cells #[.int .i64 s.start,.int .i64 s.length,.int .i64 s.kind,.slice ap' s.Ga.length ac',.int .i64 s.chunk,.slice stp' s.stale.length stc',.string s.log,.string s.pool,.int .i64 s.device,.int .i64 s.mode,.int .i64 s.done] 79));exact this.grown hg9 (by simp;omega) (fun g e=>by have:=HOlt.out g e;omega)
   have ks:∀ (z:Value) (b:Nat),b≠w.heap.size→(w9.setCell ⟨w.heap.size,5,none⟩ z).heap[b]?=w9.heap[b]?:=fun z b hb=>Below.heap_setCell _ _ _ _ hb;have hsv':(Value.slice (some ⟨gb,0,none⟩) ((v.Gf.take k).length+1) cap).ownBlock=some gb:=rfl
   have HREL:Hid (∃ (k':Nat) (sv':Value),k'≤v.Gf.length∧Value.int .i64 ((k:Int)+1)=.int .i64 k'∧(w9.setCell ⟨w.heap.size,5,none⟩ (.slice (some ⟨gb,0,none⟩) ((v.Gf.take k).length+1) cap)).heap[w.heap.size]?=some (.cells #[.string v.name,.int .u64 v.id,.bool v.hidden,.bool v.ro,.slice tp' v.tags.length tc',sv'] 55 (0,0)) ∧
     (w9.setCell ⟨w.heap.size,5,none⟩ (.slice (some ⟨gb,0,none⟩) ((v.Gf.take k).length+1) cap)).heap[w.heap.size+1]?=some (.cells #[.string ⟨#[]⟩,.int .u64 0,.bool false,.bool false,.slice none 0 0,.slice none 0 0] 55 (0,0))∧bF bC 11 79 Z (okC ok w.heap.size Z sv') (w9.setCell ⟨w.heap.size,5,none⟩ (.slice (some ⟨gb,0,none⟩) ((v.Gf.take k).length+1) cap)) sv' (v.Gf.take k') ∧
     RdS aF 1 (fun b=>(ok b∧b<w.heap.size)∨(w.heap.size+2≤b∧b<Z)) (w9.setCell ⟨w.heap.size,5,none⟩ (.slice (some ⟨gb,0,none⟩) ((v.Gf.take k).length+1) cap)) [.slice tp' v.tags.length tc'] v.tags∧Below w.heap.size w (w9.setCell ⟨w.heap.size,5,none⟩ (.slice (some ⟨gb,0,none⟩) ((v.Gf.take k).length+1) cap))∧Z≤(w9.setCell ⟨w.heap.size,5,none⟩ (.slice (some ⟨gb,0,none⟩) ((v.Gf.take k).length+1) cap)).heap.size):=aa (by
    have hsz:(w9.setCell ⟨w.heap.size,5,none⟩ (.slice (some ⟨gb,0,none⟩) ((v.Gf.take k).length+1) cap)).heap.size=w9.heap.size:=by simp [World.setCell]
    refine ⟨k+1,_,by omega,by go_num,block_setCell (i:=5) _ HX9.out,(ks _ _ (by omega)).trans ((k9 _ (by omega) (fun e=>by have:=HOlt.out _ e;omega)).trans HRX8.out),?_,(RdS.moves aF.moves).mv ⟨by omega,fun b hb ho=>⟨ho,?_⟩⟩ HTR.out,hB9.setCell (p:=⟨w.heap.size,5,none⟩) (Nat.le_refl _) _,by omega⟩
    ·rw [HN.out]
     obtain ⟨cs,ho,hf⟩:=hp.own;refine ⟨cs,?_,Flat.moves bC.moves ⟨by omega,fun b hb h=>⟨?_,ks _ b ?_⟩⟩ _ _ hf⟩
     ·exact aC ho (fun g e=>by
       obtain rfl:gb=g:=by injection e
       exact ks _ gb (by omega))
     ·rcases h.1 with q | q
      ·exact .inl q
      ·refine .inr ⟨q.1,fun e=>?_⟩
       obtain rfl:gb=b:=by injection e
       rcases hgb.2 with r | r
       ·exact q.2 r
       ·omega
     ·rcases h.1 with q | q
      ·omega
      ·omega
    ·have hbn:b≠w.heap.size:=by rcases ho with q | q <;> omega
     exact (ks _ b hbn).trans ((k9 b (by omega) (fun e=>by have:=HOlt.out _ e;rcases ho with q | q <;> omega)).trans (HB8.out.block b (by omega))))
   rw [show (v.Gf.take k).length=k from by rw [List.length_take];omega] at HREL;clear hp hg9 hx9 k9 ks hgb nL hsv' hz8 hz9 hB9;go_wp2;go_roundw
   case rel=>exact HREL.out
   case measure=>simp [intOf];omega
  ·obtain rfl:k=v.Gf.length:=by omega
   rw [List.take_of_length_le (Nat.le_refl _)] at HOW
   obtain ⟨svp,svc,hsv⟩:∃ p c,sv=.slice p v.Gf.length c:=by
    have:=HOW.out.rd (ok':=fun _=>True) bC.moves (by decide) (fun _ _ _=>trivial) (fun _ _=>trivial);obtain ⟨p,c,e,_,_⟩:=this.cap;exact ⟨p,c,e⟩
   subst hsv
   have yL:∀ (j:Nat) (z:Value),[.string v.name,.int .u64 v.id,.bool v.hidden,.bool v.ro,.slice tp' v.tags.length tc',.slice svp v.Gf.length svc][j]?=some z→wr.cell? ⟨w.heap.size,j,none⟩=some z:=fun j z hz=>by
    simp only [World.cell?,HBX.out];simpa using hz
   have rL:∀ (j:Nat) (z:Value),[.string ⟨#[]⟩,.int .u64 0,.bool false,.bool false,.slice none 0 0,.slice none 0 0][j]?=some z→wr.cell? ⟨w.heap.size+1,j,none⟩=some z:=fun j z hz=>by
    simp only [World.cell?,HRX.out];simpa using hz
   have rf:∀ i,wr.frozen? ⟨w.heap.size+1,i,none⟩=false:=fun i=>by simp [World.frozen?,HRX.out]
   have y0:=yL 0 _ rfl;have y1:=yL 1 _ rfl;have y2:=yL 2 _ rfl;have y3:=yL 3 _ rfl;have y4:=yL 4 _ rfl;have y5:=yL 5 _ rfl;have r0:=rL 0 _ rfl;have r1:=rL 1 _ rfl;have r2:=rL 2 _ rfl;have r3:=rL 3 _ rfl;have r4:=rL 4 _ rfl;have r5:=rL 5 _ rfl;clear yL rL
   have HFIN:Hid (∀ wf:World,(∀ b,b≠w.heap.size+1→wf.heap[b]?=wr.heap[b]?)→wf.heap.size=wr.heap.size→Below w.heap.size w wf→D8 ok v w [.string v.name,.int .u64 v.id,.bool v.hidden,.bool v.ro,.slice tp' v.tags.length tc',.slice svp v.Gf.length svc] wf):=aa fun wf hk hz hb=>by
    refine ⟨⟨_,_,rfl,(RdS.moves aF.moves).mv ⟨by omega,fun b _ ho=>⟨ho.imp (fun q=>q.1) (fun q=>by omega),hk b (by rcases ho with q | q <;> omega)⟩⟩ HTR.out,?_⟩,hb⟩
    obtain ⟨cs,ho,hf⟩:=HOW.out;have hg:∀ g,(Value.slice svp v.Gf.length svc).ownBlock=some g→Z≤g:=fun g e=>(World.ownsRow.lt ho g e).1
    have:bF bC 11 79 Z (fun b=>ok b∨w.heap.size≤b) wf (.slice svp v.Gf.length svc) v.Gf :=
     ⟨cs,aC ho (fun g e=>hk g (by have:=hg g e;omega)),Flat.moves bC.moves ⟨by omega,fun b _ h=>⟨h.imp (fun q=>q.1) (fun q=>by omega),hk b (by rcases h with q | q <;> omega)⟩⟩ _ _ hf⟩
    exact this.rd bC.moves (by decide) (fun _ _ h=>h) (fun g e=>.inr (by have:=hg g e;omega))
   clear HOW HTR HBX HRX;go_wp2;refine bodyPost_ret (v:=.agg #[.string v.name,.int .u64 v.id,.bool v.hidden,.bool v.ro,.slice tp' v.tags.length tc',.slice svp v.Gf.length svc]) (by simp [results,Tryz.results156,go_sem,r0,r1,r2,r3,r4,r5]) rfl ⟨[.string v.name,.int .u64 v.id,.bool v.hidden,.bool v.ro,.slice tp' v.tags.length tc',.slice svp v.Gf.length svc],rfl,HFIN.out _ (fun b hb=>?_) ?_ ?_⟩
   ·rw [Below.heap_setCell _ _ _ _ hb,Below.heap_setCell _ _ _ _ hb,Below.heap_setCell _ _ _ _ hb,Below.heap_setCell _ _ _ _ hb,Below.heap_setCell _ _ _ _ hb,Below.heap_setCell _ _ _ _ hb]
   ·simp [World.setCell]
   ·have hL:∀ (V:World) (o:Nat) (z:Value),Below w.heap.size w V→Below w.heap.size w (V.setCell ⟨w.heap.size+1,o,none⟩ z):=fun V o z q=>q.setCell (p:=⟨w.heap.size+1,o,none⟩) (by show w.heap.size≤w.heap.size+1;omega) z
    exact hL _ _ _ (hL _ _ _ (hL _ _ _ (hL _ _ _ (hL _ _ _ (hL _ _ _ hB)))))
end Go.Proofs.YtjdfihglehfelaaGreatDoor
