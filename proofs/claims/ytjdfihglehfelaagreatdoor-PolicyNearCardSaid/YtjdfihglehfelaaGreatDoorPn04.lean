/- Lemmas: NeaB, NeaC. -/
import Derived.Test.YtjdfihglehfelaaGreatDoorPn01
import Derived.Test.YtjdfihglehfelaaGreatDoorPn03
set_option maxRecDepth 100000
set_option maxHeartbeats 32000000
set_option linter.all false
namespace Go.Proofs.YtjdfihglehfelaaGreatDoor
open Go.Proofs.Tryz
open Go.RowKit Go.Maps Go.Shelf
def af1 (nm:ByteArray):aY:=⟨1,1,1,1,⟨#[]⟩,nm,⟨#[]⟩⟩
theorem aj8 {g:af}{r:aY}{d:az}{x:List (Int × Int)}(hn:uM r=true)(h:iE x (kI g r d)){p:Int × Int}(hp:p∈x):∃ e∈jE g r.near,e.1=d.name/\e.2=p.1:=by
 have h1:=h.1.1 p hp;have h2:=(h.2 p.1).1 ⟨p,hp,by omega,by omega⟩;unfold kI at h2;rw [aw hn] at h2;obtain ⟨hb,y,hy,hm⟩:=h2
 have h3:iE x (Mem (mQ (jE g r.near) d.name y)):=⟨h.1,fun n=>(h.2 n).trans ⟨fun q=>by
  unfold kI at q;rw [aw hn] at q;obtain ⟨_,y',hy',hm'⟩:=q;obtain rfl:y'=y:=hy'.eq hy fun _=>Iff.rfl;exact hm',fun q=>by
  unfold kI;rw [aw hn]
  exact ⟨hb,y,hy,q⟩⟩⟩
 obtain ⟨q,hq,e⟩:=h3.start hp;obtain ⟨en,hen,hq⟩:=List.mem_flatMap.1 hq;obtain ⟨a1,a2,_⟩:=CY hq;exact ⟨en,hen,a1,a2.symm.trans e⟩
theorem ak8 (Q:Exit->Act->World->Prop)(c0 c1 c2 c5 c6 c7 c8 c9 c10 c11 c12 c13 c14 c15 c16 c17 c18 c19 c20 c21 c22 c23 c24 c25 c26 c27 c28 c29 c30 c31 c32 c33 c34 c35 c36 c37 c38 c39 c40 c41 c42 c43 c44 c45 c46 c47 c48 c49 c50 c51 c52 c53 c54 c55 c56 c57 c58 c59 c60 c61 c62 c63 c64 c65 c66 c67 c68 c69 c70 c71 c72 c73 c74 c75 c76 c77 c78 c79 c80 c81 c82 c83 c84 c85 c86 c87 c88 c89 c90 c91 c92 c93 c94 c95 c96 c97 c98 c99 c100 c101 c102 c103 c104 c105 c106 c107:Value)(w:World)(bs Bg:Nat)(g:af)(a:bN)(hs:Src w bs)(hgb:w.heap[Bg]?=some (.cells #[.string g.name,.int .u64 g.id,.int .i64 g.seq,.int .i64 g.Gd,.int .i64 g.next,.slice a.tp g.tags.length a.tc,.slice a.dp g.Gb.length a.dc,.slice a.vp g.F9.length a.vc,.slice a.hp g.history.length a.hc] 31 (0,0)))(hne:Bg≠bs)
  (Na:ck aN 6 (fun k=>k≠bs) w [.slice a.vp g.F9.length a.vc] g.F9) (hv0:0<g.F9.length) (hv1:g.F9.length<=1000)
  (HK:Hid (∀ (b:Nat) (W':World) (v:ay) (u22 u23 u24 u25 u26 u27 u28 u29 u30 u31 u32:Value),v∈g.F9->w.heap.size<=b->W'.heap[b]?=some (.cells #[.int .i64 1,.int .i64 1,.int .i64 1,.int .i64 1,.string ⟨#[]⟩,.string v.name,.string ⟨#[]⟩] 35 (0,0))->Src W' bs->cR (fun i=>i=bs) w W'->Q .normal ⟨#[c0,c1,c2,.pointer (some ⟨bs,0,none⟩),.pointer (some ⟨Bg,0,none⟩),.pointer (some ⟨b,0,none⟩),c6,c7,c8,c9,c10,c11,c12,c13,c14,c15,c16,c17,c18,c19,c20,c21,u22,u23,u24,u25,u26,u27,u28,u29,u30,u31,u32,c33,c34,c35,c36,c37,c38,c39,c40,c41,c42,c43,c44,c45,c46,c47,c48,c49,c50,c51,c52,c53,c54,c55,c56,c57,c58,c59,c60,c61,c62,c63,c64,c65,c66,c67,c68,c69,c70,c71,c72,c73,c74,c75,c76,c77,c78,c79,c80,c81,c82,c83,c84,c85,c86,c87,c88,c89,c90,c91,c92,c93,c94,c95,c96,c97,c98,c99,c100,c101,c102,c103,c104,c105,c106,c107],[]⟩ W'))
  (hQ:∀ c (a:Act) (d:Tmp) (v:Value) w,Q (.panic c) (a.put (some d) v) w->Q (.panic c) a w) :
  (Ai Tryz.f6 5).wp prog Q ⟨#[c0,c1,c2,.pointer (some ⟨bs,0,none⟩),.pointer (some ⟨Bg,0,none⟩),c5,c6,c7,c8,c9,c10,c11,c12,c13,c14,c15,c16,c17,c18,c19,c20,c21,c22,c23,c24,c25,c26,c27,c28,c29,c30,c31,c32,c33,c34,c35,c36,c37,c38,c39,c40,c41,c42,c43,c44,c45,c46,c47,c48,c49,c50,c51,c52,c53,c54,c55,c56,c57,c58,c59,c60,c61,c62,c63,c64,c65,c66,c67,c68,c69,c70,c71,c72,c73,c74,c75,c76,c77,c78,c79,c80,c81,c82,c83,c84,c85,c86,c87,c88,c89,c90,c91,c92,c93,c94,c95,c96,c97,c98,c99,c100,c101,c102,c103,c104,c105,c106,c107],[]⟩ w:=by
 conv=>arg 2;whnf
 have GF:=hs.lt;obtain ⟨_,_,Mq,ij,Km⟩:=Na.cap;injection Mq with _ _ e3
 rw [<- e3] at ij Km;clear e3;have K2:=aq hgb;obtain ⟨v0,hv0'⟩:=aj g.F9 0 hv0;obtain ⟨bv,off0,_,hsp,gR,cX,_,_,_⟩:=Na.elem hv0'
 have pD:∀ (j:Nat) (v:ay),g.F9[j]?=some v->w.cell? ⟨bv,off0+j*6,none⟩=some (.string v.name):=fun j v hj=>by
  obtain ⟨b',off',us,hsp',_,_,_,eE,hcv⟩:=Na.elem hj;rw [hsp] at hsp';injection hsp' with q
  injection q with q1 q2 _
  subst q1;subst q2;obtain ⟨tv,sv,rfl,_,_⟩:=eE;have:=hcv 0 _ rfl
  rwa [fg] at this
 have hS:∀ w':World,cR (fun i=>i=bs) w w'->w'.cell? ⟨Bg,7,none⟩=some (.slice (some ⟨bv,off0,none⟩) g.F9.length a.vc)/\∀ (j:Nat) (v:ay),g.F9[j]?=some v->w'.cell? ⟨bv,off0+j*6,none⟩=some (.string v.name):=fun w' e=>by
  have h2:=(e.block Bg K2 hne).trans hgb;exact ⟨by simp [World.cell?,h2,hsp],fun j v hj=>(e.cell (p:=⟨bv,off0+j*6,none⟩) cX gR).trans (pD j v hj)⟩
 have HS:=aa hS;clear hS;clear Na pD;have JK:=aa hs;clear hs
 have HC:Hid (∀ W:World,Src W bs->Calls prog 26 #[.pointer (some ⟨bs,0,none⟩),.int .i64 (g.F9.length:Int)] W fun e W'=>∃ (j:Nat) (v:ay),e=.returned (.int .i64 (j:Int))/\g.F9[j]?=some v/\Src W' bs/\cR (fun i=>i=bs) W W'):=aa fun W hW=>by
  refine (bY bs _ W (by omega) (by omega) hW).mono ?_;rintro e W' ⟨v,rfl,h1,h2,h3,h4⟩;obtain ⟨x,hx⟩:=aj g.F9 v.toNat (by omega);exact ⟨v.toNat,x,by rw [Int.toNat_of_nonneg h1],hx,h3,h4⟩
 clear hgb;have hvc:=ij;refine aL (fun w'=>w'.cell? ⟨Bg,7,none⟩=some (.slice (some ⟨bv,off0,none⟩) g.F9.length a.vc)/\∀ (j:Nat) (v:ay),g.F9[j]?=some v->w'.cell? ⟨bv,off0+j*6,none⟩=some (.string v.name)) 13 [] (by kernel_rfl) (HS.o _ ((cR.refl _ w).drewN _)) (fun hHeld=>?_);refine cH hQ 0 hHeld ?_;try simp only [ak];refine cH hQ 1 hHeld ?_;try simp only [ak];refine cH hQ 2 hHeld ?_;try simp only [ak];refine cH hQ 3 hHeld ?_;try simp only [ak];refine cH hQ 4 hHeld ?_;try simp only [ak];refine cH hQ 5 hHeld ?_;try simp only [ak];refine mh (i:=6) (j:=11) rfl rfl rfl rfl (by kernel_rfl) (fun K hK=>?_) (fun K hK=>?_)
 ·go_simp
  refine (HC.o w.drew (JK.o.keep fun _ _=>rfl)).mono ?_;rintro e w1 ⟨j,v,rfl,hj,hs1,hm1⟩;have hm1':cR (fun i=>i=bs) w w1:=⟨hm1.os,hm1.tape,hm1.output,hm1.size,hm1.block⟩;refine hK.o _ _ (HS.o _ hm1') ?_;clear hK K hHeld;have hHeld:=HS.o _ hm1';have Nf:=aa hm1';clear hm1 hm1';have HS1:=aa hs1;clear hs1;have vt:=(List.getElem?_eq_some_iff.1 hj).1;have HJ:=aa hj;clear hj;refine cH hQ 7 hHeld ?_;try simp only [ak];refine cH hQ 8 hHeld ?_;try simp only [ak]
  (refine o7 (i:=9) (v:=?_) rfl rfl (by kernel_rfl) (fun _ _ _ h=>hQ _ _ _ _ _ h) (Or.inl ⟨by rfl,?_⟩) hHeld ?_;rotate_left;(intro w hSw;have hq:=hSw.2 j v HJ.o;clear hSw;go_simp;(try (with_reducible rfl)));(try simp only [aS]))
  refine cH hQ 10 hHeld ?_;try simp only [ak];refine lR 11 fun K hK=>?_;go_simp;have hm2:cR (fun i=>i=bs) w (w1.alloc (.cells #[.int .i64 0,.int .i64 0,.int .i64 0,.int .i64 0,.string ⟨#[]⟩,.string ⟨#[]⟩,.string ⟨#[]⟩] 35)):=Nf.o.alloc _;have hs2:Src (w1.alloc (.cells #[.int .i64 0,.int .i64 0,.int .i64 0,.int .i64 0,.string ⟨#[]⟩,.string ⟨#[]⟩,.string ⟨#[]⟩] 35)) bs:=HS1.o.keep fun i hi=>cj _ _ _ (rr hi HS1.o.lt);refine hK.o _ _ (HS.o _ hm2) ?_;clear hK K hHeld;have gh:=b9 w1 (.cells #[.int .i64 0,.int .i64 0,.int .i64 0,.int .i64 0,.string ⟨#[]⟩,.string ⟨#[]⟩,.string ⟨#[]⟩] 35);have mA:=Nf.o.size;generalize hW2:World.alloc w1 _=W2 at *;generalize hb0:w1.heap.size=b0 at *;clear hW2 hb0 Nf HS1;have DD:=aa hm2;clear hm2;have HS2:=aa hs2;clear hs2;have ao7:bs<b0:=by omega
  obtain ⟨z0,z1,z2,z3,z4,z5,z6⟩:=se (cr gh)
  have zf:=sr gh
  have F2:=aa (block_setCell (i:=6) (.string ⟨#[]⟩) (block_setCell (i:=5) (.string v.name) (block_setCell (i:=4) (.string ⟨#[]⟩) (block_setCell (i:=3) (.int .i64 1) (block_setCell (i:=2) (.int .i64 1) (block_setCell (i:=1) (.int .i64 1) (block_setCell (w:=W2) (i:=0) (.int .i64 1) gh)))))));have my:Hid (∀ (V:World) (o:Nat) (z:Value),cR (fun i=>i=bs) w V->cR (fun i=>i=bs) w (V.setCell ⟨b0,o,none⟩ z)):=aa fun V o z q=>q.setCell (p:=⟨b0,o,none⟩) (.inr mA) z;have HZ1:Hid (∀ (V:World) (o:Nat) (z:Value),Src V bs->Src (V.setCell ⟨b0,o,none⟩ z) bs):=aa fun V o z q=>q.keep fun i hi=>bw _ _ _ _ (by show i≠b0;omega);clear gh;refine lR 12 fun K hK=>?_;go_simp;have hb3:cR (fun i=>i=bs) w (World.setCell (World.setCell (World.setCell (World.setCell (World.setCell (World.setCell (World.setCell W2 ⟨b0,0,none⟩ (.int .i64 1)) ⟨b0,1,none⟩ (.int .i64 1)) ⟨b0,2,none⟩ (.int .i64 1)) ⟨b0,3,none⟩ (.int .i64 1)) ⟨b0,4,none⟩ (.string ⟨#[]⟩)) ⟨b0,5,none⟩ (.string v.name)) ⟨b0,6,none⟩ (.string ⟨#[]⟩)):=(my.o _ _ _ (my.o _ _ _ (my.o _ _ _ (my.o _ _ _ (my.o _ _ _ (my.o _ _ _ (my.o _ _ _ DD.o)))))));have hb4:Src (World.setCell (World.setCell (World.setCell (World.setCell (World.setCell (World.setCell (World.setCell W2 ⟨b0,0,none⟩ (.int .i64 1)) ⟨b0,1,none⟩ (.int .i64 1)) ⟨b0,2,none⟩ (.int .i64 1)) ⟨b0,3,none⟩ (.int .i64 1)) ⟨b0,4,none⟩ (.string ⟨#[]⟩)) ⟨b0,5,none⟩ (.string v.name)) ⟨b0,6,none⟩ (.string ⟨#[]⟩)) bs:=(HZ1.o _ _ _ (HZ1.o _ _ _ (HZ1.o _ _ _ (HZ1.o _ _ _ (HZ1.o _ _ _ (HZ1.o _ _ _ (HZ1.o _ _ _ HS2.o)))))));refine hK.o _ _ (HS.o _ hb3) ?_;clear hK K;refine aP (by kernel_rfl) rfl ?_;simp only [cQ,km,cL];exact HK.o b0 _ v _ _ _ _ _ _ _ _ _ _ _ (ct HJ.o) mA F2.o hb4 hb3
 ·go_simp
  have hm1:cR (fun i=>i=bs) w (w.drew.alloc (.cells #[.int .i64 0,.int .i64 0,.int .i64 0,.int .i64 0,.string ⟨#[]⟩,.string ⟨#[]⟩,.string ⟨#[]⟩] 35)):=((cR.refl _ w).drewN _).alloc _;have hs1:Src (w.drew.alloc (.cells #[.int .i64 0,.int .i64 0,.int .i64 0,.int .i64 0,.string ⟨#[]⟩,.string ⟨#[]⟩,.string ⟨#[]⟩] 35)) bs:=JK.o.keep fun i hi=>cj w.drew _ _ (rr hi GF);refine hK.o _ _ (HS.o _ hm1) ?_;clear hK K hHeld;have hHeld:=HS.o _ hm1;have gh:=b9 w.drew (.cells #[.int .i64 0,.int .i64 0,.int .i64 0,.int .i64 0,.string ⟨#[]⟩,.string ⟨#[]⟩,.string ⟨#[]⟩] 35);refine lR 6 fun K hK=>?_;go_simp;refine (HC.o _ hs1).mono ?_;rintro e W2 ⟨j,v,rfl,hj,hs2,hm2⟩;have hm3:cR (fun i=>i=bs) w W2:=hm1.trans hm2 fun i e=>.inl e;refine hK.o _ _ (HS.o _ hm3) ?_;clear hK K hHeld;have hHeld:=HS.o _ hm3;have gh:W2.heap[w.heap.size]?=some (.cells #[.int .i64 0,.int .i64 0,.int .i64 0,.int .i64 0,.string ⟨#[]⟩,.string ⟨#[]⟩,.string ⟨#[]⟩] 35 (0,0)):=(hm2.block _ (by simp) (by omega)).trans gh;have mA:w.heap.size<=w.heap.size:=bk _;have DD:=aa hm3;clear hm1 hm2 hm3 hs1;have HS2:=aa hs2;clear hs2;have vt:=(List.getElem?_eq_some_iff.1 hj).1;have HJ:=aa hj;clear hj;refine cH hQ 7 hHeld ?_;try simp only [ak];refine cH hQ 8 hHeld ?_;try simp only [ak]
  (refine o7 (i:=9) (v:=?_) rfl rfl (by kernel_rfl) (fun _ _ _ h=>hQ _ _ _ _ _ h) (Or.inl ⟨by rfl,?_⟩) hHeld ?_;rotate_left;(intro w hSw;have hq:=hSw.2 j v HJ.o;clear hSw;go_simp;(try (with_reducible rfl)));(try simp only [aS]))
  refine cH hQ 10 hHeld ?_;try simp only [ak];clear hHeld;obtain ⟨z0,z1,z2,z3,z4,z5,z6⟩:=se (cr gh)
  have zf:=sr gh
  have F2:=aa (block_setCell (i:=6) (.string ⟨#[]⟩) (block_setCell (i:=5) (.string v.name) (block_setCell (i:=4) (.string ⟨#[]⟩) (block_setCell (i:=3) (.int .i64 1) (block_setCell (i:=2) (.int .i64 1) (block_setCell (i:=1) (.int .i64 1) (block_setCell (w:=W2) (i:=0) (.int .i64 1) gh)))))));have my:Hid (∀ (V:World) (o:Nat) (z:Value),cR (fun i=>i=bs) w V->cR (fun i=>i=bs) w (V.setCell ⟨w.heap.size,o,none⟩ z)):=aa fun V o z q=>q.setCell (p:=⟨w.heap.size,o,none⟩) (.inr mA) z;have HZ1:Hid (∀ (V:World) (o:Nat) (z:Value),Src V bs->Src (V.setCell ⟨w.heap.size,o,none⟩ z) bs):=aa fun V o z q=>q.keep fun i hi=>bw _ _ _ _ (by show i≠w.heap.size;omega);clear gh;refine lR 12 fun K hK=>?_;go_simp;have hb3:cR (fun i=>i=bs) w (World.setCell (World.setCell (World.setCell (World.setCell (World.setCell (World.setCell (World.setCell W2 ⟨w.heap.size,0,none⟩ (.int .i64 1)) ⟨w.heap.size,1,none⟩ (.int .i64 1)) ⟨w.heap.size,2,none⟩ (.int .i64 1)) ⟨w.heap.size,3,none⟩ (.int .i64 1)) ⟨w.heap.size,4,none⟩ (.string ⟨#[]⟩)) ⟨w.heap.size,5,none⟩ (.string v.name)) ⟨w.heap.size,6,none⟩ (.string ⟨#[]⟩)):=(my.o _ _ _ (my.o _ _ _ (my.o _ _ _ (my.o _ _ _ (my.o _ _ _ (my.o _ _ _ (my.o _ _ _ DD.o)))))));have hb4:Src (World.setCell (World.setCell (World.setCell (World.setCell (World.setCell (World.setCell (World.setCell W2 ⟨w.heap.size,0,none⟩ (.int .i64 1)) ⟨w.heap.size,1,none⟩ (.int .i64 1)) ⟨w.heap.size,2,none⟩ (.int .i64 1)) ⟨w.heap.size,3,none⟩ (.int .i64 1)) ⟨w.heap.size,4,none⟩ (.string ⟨#[]⟩)) ⟨w.heap.size,5,none⟩ (.string v.name)) ⟨w.heap.size,6,none⟩ (.string ⟨#[]⟩)) bs:=(HZ1.o _ _ _ (HZ1.o _ _ _ (HZ1.o _ _ _ (HZ1.o _ _ _ (HZ1.o _ _ _ (HZ1.o _ _ _ (HZ1.o _ _ _ HS2.o)))))));refine hK.o _ _ (HS.o _ hb3) ?_;clear hK K;refine aP (by kernel_rfl) rfl ?_;simp only [cQ,km,cL];exact HK.o w.heap.size _ v _ _ _ _ _ _ _ _ _ _ _ (ct HJ.o) mA F2.o hb4 hb3
def aj1 (nm:ByteArray)(st:Int)(e:ByteArray × Int):Bool:=e.1.toList == nm.toList&&e.2 == st
theorem al8 {l:List (ByteArray × Int)}{nm:ByteArray}{st:Int}(h:∃ e∈l,e.1=nm/\e.2=st):l.any (aj1 nm st)=true:=by
 obtain ⟨e,he,rfl,rfl⟩:=h;exact List.any_eq_true.2 ⟨e,he,by simp [aj1]⟩
theorem al3 {l:List (ByteArray × Int)}{nm:ByteArray}{st:Int}{j:Nat}{e:ByteArray × Int}(h:l[j]?=some e):(l.take (j+1)).any (aj1 nm st)=((l.take j).any (aj1 nm st)||aj1 nm st e):=by
 rw [take_snoc' l j e h,rj];simp
theorem sU.named {g:af}(h:sU g):∀ v∈g.F9,v.name.toList.isEmpty=false:=fun v hv=>by
 obtain ⟨c,g0,g1,next,hc,_,_,_,KW,hn0,_,hv0,_,_,_,ye,hg,_,_⟩:=h.ex;obtain ⟨G,_⟩:=ye.inv hc ⟨hv0,hn0⟩ KW;obtain ⟨j,_,_,e⟩:=G.hd v (by rw [hg] at hv;exact hv);rw [A6];cases hn:v.name.data.toList with
 | nil=>rw [hn] at e;cases e
 | cons a l=>rfl
theorem am1 {nm:ByteArray}(h:nm.toList.isEmpty=false):uM (af1 nm)=true:=by simp [uM,af1,h]
theorem al7 {nm:ByteArray}(h:nm.size<=9223372036854775807):dK (af1 nm) :=
 ⟨by show (-9223372036854775808:Int)<=1/\(1:Int)<=9223372036854775807;decide,by show (-9223372036854775808:Int)<=1/\(1:Int)<=9223372036854775807;decide,by show (-9223372036854775808:Int)<=1/\(1:Int)<=9223372036854775807;decide,by show (-9223372036854775808:Int)<=1/\(1:Int)<=9223372036854775807;decide,
  by show (⟨#[]⟩:ByteArray).size<=9223372036854775807;decide,h,by show (⟨#[]⟩:ByteArray).size<=9223372036854775807;decide⟩
theorem ag4 {B n:Nat}{w w':World}(h:Below B w w'):Below B w (w'.drewN n):=⟨h.os,h.tape,h.output,h.size,h.block⟩
theorem ak5 {g:af}{v:ay}(hm:(pM g).2=0)(hv:v∈g.F9)(hn:v.name.toList.isEmpty=false):kP g (af1 v.name)=0:=by
 have h1:(aM g.F9 v.name).isSome=true:=List.find?_isSome.2 ⟨v,hv,by simp⟩;have e0:(⟨#[]⟩:ByteArray).toList.isEmpty=true:=NE;unfold kP;rw [aw hm];simp [yZ,Dr,Ek,xM,af1,eu,h1,hn,e0]
theorem ah9 (l:List Int)(v:Value)(w:World)(hr:Hs w v l)(hl:∀ x∈l,-9223372036854775808<=x/\x<=9223372036854775807)(hS:AW w) :
  Calls prog 6 #[v] w fun e w'=>e=.returned (.bool true)/\Below w.heap.size w w':=by
 have HR:=aa hr;clear hr;have MD:=aa hS;clear hS;go_enter func6,ntmps6
 go_wp2_with fail
 refine (ED l v w HR.o hl).mono ?_;rintro e w1 ⟨rfl,hs1,hz1,hb1⟩
 go_wp2_with fail
 refine (Ca w.heap.size w1 hs1).mono ?_;intro e w2 hG;obtain ⟨g,a,rfl,hgr,MC,hs2,hb2,hz2⟩:=hG.open2 hb1 hz1;have Tt:=aa (MD.o.below hb2);clear hs1 hz1 hb1 hG;have XT:=aa MC.gin;have Nj:Hid (g.Gb.length<=4/\g.F9.length<=44):=aa ⟨MC.tame.dl,MC.tame.vl⟩;have MI:=aa MC.tame;have Mw:=aa MC.mchk;have Mr:=aa MC.named;have E4:=aa MC.onD;clear MC;have bA:=ae w2 (.cells #[.string g.name,.int .u64 g.id,.int .i64 g.seq,.int .i64 g.Gd,.int .i64 g.next,.slice a.tp g.tags.length a.tc,.slice a.dp g.Gb.length a.dc,.slice a.vp g.F9.length a.vc,.slice a.hp g.history.length a.hc] 31);have JW:=aa (b9 w2 (.cells #[.string g.name,.int .u64 g.id,.int .i64 g.seq,.int .i64 g.Gd,.int .i64 g.next,.slice a.tp g.tags.length a.tc,.slice a.dp g.Gb.length a.dc,.slice a.vp g.F9.length a.vc,.slice a.hp g.history.length a.hc] 31));have Lm:=aa (hgr.lt.keep (cR.bl bA));have JK:=aa (hs2.keep (w':=w2.alloc (.cells #[.string g.name,.int .u64 g.id,.int .i64 g.seq,.int .i64 g.Gd,.int .i64 g.next,.slice a.tp g.tags.length a.tc,.slice a.dp g.Gb.length a.dc,.slice a.vp g.F9.length a.vc,.slice a.hp g.history.length a.hc] 31)) fun i hi=>bA.block i (by omega));have cJ:=aa (hb2.trans (bA.mono hb2.size));have Tu:=aa (Tt.o.below bA);clear hgr hs2 hb2 bA Tt
 go_upto_region 3 with (fail)
 generalize hW3:World.alloc w2 _=W3 at *;generalize Ms:w2.heap.size=Bg at *;clear hW3 Ms;have g7:=cr JW.o 7 _ rfl
 have h0w:=MD.o.1
 by_cases hv0:g.F9.length=0
 ·have hz:((g.F9.length:Int) == 0)=true:=by simp [hv0]
  have XV:=aa (wR W3 Tu.o);clear hv0
  go_wp2_with fail
  refine XV.o.mono ?_;rintro e w11 ⟨rfl,hb11⟩;have C7:=aa (cJ.o.trans (hb11.mono cJ.o.size));clear hb11;go_wp2;go_ret;exact ⟨rfl,C7.o⟩
 have hz:((g.F9.length:Int) == 0)=false:=by rw [beq_eq_false_iff_ne];omega
 have mb:=Nj.o.2;have ye:Bg≠w.heap.size:=by omega
 go_upto_region 5 with (fail)
 clear g7 hz;refine ak8 _ _ _ _ _ _ _ _ _ _ _ _ _ _ _ _ _ _ _ _ _ _ _ _ _ _ _ _ _ _ _ _ _ _ _ _ _ _ _ _ _ _ _ _ _ _ _ _ _ _ _ _ _ _ _ _ _ _ _ _ _ _ _ _ _ _ _ _ _ _ _ _ _ _ _ _ _ _ _ _ _ _ _ _ _ _ _ _ _ _ _ _ _ _ _ _ _ _ _ _ _ _ _ _ _ _ _ W3 w.heap.size Bg g a JK.o JW.o ye ((ck.moves aN.moves).mv ⟨bk _,fun b _ hb=>⟨hb.1,rfl⟩⟩ Lm.o.F9) (by omega) (by omega) (aa ?_) ?hQ
 case hQ=>exact fun _ _ _ _ _ h=>h
 intro Bq W5 vv u22 u23 u24 u25 u26 u27 u28 u29 u30 u31 u32 sA kq hqb hs5 hm5;have HV:=aa sA;clear sA;have hr':dK (af1 vv.name):=al7 (XT.o.tx.vol vv HV.o).1;have LU:=aa (ak5 Mw.o HV.o (Mr.o vv HV.o));have WO:=aa (am1 (Mr.o vv HV.o));have Sv:Hid ((af1 vv.name).near=vv.name):=aa rfl;have HQB:Hid (W5.heap[Bq]?=some (.cells #[.int .i64 (af1 vv.name).Gi,.int .i64 (af1 vv.name).Gh,.int .i64 (af1 vv.name).Gc,.int .i64 (af1 vv.name).Gg,.string (af1 vv.name).tag,.string (af1 vv.name).near,.string (af1 vv.name).sep] 35 (0,0))):=aa hqb;generalize af1 vv.name=r at *
 have HST:Hid (iw w Bg Bq g a r W5):=aa
  ⟨hs5,cJ.o.trans (hm5.below cJ.o.size (fun k e=>by omega)),Lm.o.keep hm5,(hm5.block _ (aq JW.o) ye).trans JW.o,HQB.o,hr',Tu.o.mod hm5 (by omega)⟩
 clear hqb hs5 hm5 JW Lm JK cJ Tu HQB hr';have gL:=HST.o.gc;obtain ⟨g0,g1,g2,g3,g4,g5,g6,g7,g8⟩:=xr gL;have qL:=HST.o.qc;obtain ⟨q0,q1,q2,q3,q4,q5,q6⟩:=se qL;clear gL qL;have NY:=aa (jk g a r W5 HST.o.gr XT.o HST.o.rq HST.o.sf)
 go_wp2_with fail
 clear g0 g1 g2 g3 g4 g5 g6 g7 g8 q0 q1 q2 q3 q4 q5 q6;refine NY.o.mono ?_;clear NY;intro e w8 hp8;obtain ⟨xv,xs,rfl,OA,Zs,vh,hb8⟩:=hp8.form;clear hp8;have HS8:=aa (HST.o.below hb8);have PW:=aa OA;clear OA;have HXP:=aa Zs;clear Zs;rw [LU.o] at vh ⊢;rw [aw rfl] at vh;clear hb8 HST LU;have gL:=HS8.o.gc;obtain ⟨g0,g1,g2,g3,g4,g5,g6,g7,g8⟩:=xr gL;have q5:w8.cell? ⟨Bq,5,none⟩=some (.string r.near):=HS8.o.qc 5 _ rfl;clear gL
 have MU:=aa (ak3 g a r.near w8 HS8.o.gr.F9 (by omega) MI.o.tame fun v hv s hs ho ar gg=>by
  obtain ⟨D,d1,d2,d3,d4⟩:=E4.o v hv s hs ho ar gg;have:=(MI.o.dext D (eV d1)).2
  omega)
 go_wp2_with fail
 clear g0 g1 g2 g3 g4 g5 g6 g7 g8 q5;refine MU.o.mono ?_;clear MU;rintro e w9 ⟨ev,rfl,how,hb9⟩;have HS9:=aa (HS8.o.below hb9);have Tv:=aa (PW.o.below hb9);have kf:ck aQ 3 (fun _=>True) w9 [ev] ((jE g r.near).map fun x=>⟨false,x.1,x.2⟩):=bF.rd aQ.moves how (by decide) (fun _ _ _=>trivial) (fun _ _=>trivial);clear how hb9 PW HS8;have HHT:Hid (∀ (i:Nat) (d:az) (x:List (Int × Int)),g.Gb[i]?=some d->xs[i]?=some x->∀ p∈x,∃ e∈jE g r.near,e.1=d.name/\e.2=p.1):=aa fun i d x hd hx p hp=>aj8 WO.o (HXP.o i d x hd hx).1 hp;generalize jE g r.near=E at *;obtain ⟨ep,ec,rfl,WH,ac6⟩:=kf.cap;have B2:=aa kf;clear kf;rw [fW] at WH ⊢;obtain ⟨px,cx,rfl,PY,Ma⟩:=Tv.o.cap;have NA:=aa vh;rw [vh] at Tv PY ⊢;clear vh;have T8:((g.Gb.length:Int) != (g.Gb.length:Int))=false:=by simp
 have g6:=HS9.o.gc 6 _ rfl;have CD:=Nj.o.1
 go_upto_region 11 with (fail)
 clear T8 g6
 go_loopw [9] (fun i wr=>∃ k:Nat,k<=g.Gb.length/\i=.int .i64 k/\Below w9.heap.size w9 wr) (fun i _=>g.Gb.length - (intOf i).toNat)
 case atStart=>exact ⟨0,cg _,rfl,bj _ _⟩
 case round =>
  obtain ⟨k,hk,rfl,hB⟩:=hrel;have HB:=aa hB;clear hB
  by_cases hlt:k<g.Gb.length
  ·obtain ⟨d,hd⟩:=aj g.Gb k hlt
   obtain ⟨x,hx⟩:=aj xs k (by have:=NA.o;omega);have HD:=aa hd;have Zl:=aa (HHT.o k d x hd hx);have ao5:=(HXP.o k d x hd hx).2.1;obtain ⟨bx,ux,Uv,_,sk,Ox,Zt⟩:=Tv.o.at hx;subst Uv;obtain ⟨pu,cu,rfl,hu1,hu2,hu3⟩:=Zt.rd;have Oy:=aa Ox;have HU3:=aa hu3;clear hd hx Ox Zt hu3
   go_upto_region 13 with (fail)
   go_upto_region 14 with (fail)
   go_loopw [10] (fun i wr=>∃ m:Nat,m<=x.length/\i=.int .i64 m/\Below w9.heap.size w9 wr) (fun i _=>x.length - (intOf i).toNat)
   case atStart=>exact ⟨0,cg _,rfl,HB.o⟩
   case round =>
    clear HB;obtain ⟨m,hm,rfl,hB⟩:=hrel;have HB:=aa hB;clear hB;have Ox:wr.cell? ⟨bx,k,none⟩=some (.slice pu x.length cu):=(HB.o.cell (p:=⟨bx,k,none⟩) sk).trans Oy.o
    by_cases hlt2:m<x.length
    ·obtain ⟨p,hp⟩:=aj x m hlt2
     obtain ⟨bp,PC,hpu,hbp,Mq⟩:=HU3.o (by omega);subst hpu;have Uy:=aa (al8 (Zl.o p (ct hp)));have SB:=aa (Mq m p hp).1;clear hp Mq
     go_upto_region 16 with (fail)
     go_upto_region 17 with (fail)
     go_upto_region 18 with (fail)
     clear Ox
     go_loopw [11,12] (fun bv i wr=>∃ j:Nat,j<=E.length/\i=.int .i64 j/\bv=.bool ((E.take j).any (aj1 d.name p.1))/\Below w9.heap.size w9 wr) (fun _ i _=>E.length - (intOf i).toNat)
     case atStart=>exact ⟨0,cg _,rfl,rfl,HB.o⟩
     case round =>
      clear HB;obtain ⟨j,hj,rfl,rfl,hB⟩:=hrel;have HB:=aa hB;clear hB
      by_cases hlt3:j<E.length
      ·obtain ⟨e,he⟩:=aj E j hlt3
       obtain ⟨b,off,us,rfl,_,cX,ez,eE,hcv⟩:=B2.o.elem (k:=j) (x:=(⟨false,e.1,e.2⟩:aR)) (by rw [rI,he];rfl);obtain rfl:us=_:=eE;have cT:wr.heap[b]?=w9.heap[b]?:=HB.o.block b cX;obtain ⟨q0,q1,q2⟩:=Mn cT hcv;dsimp only at q1 q2;have JO:=aa (al3 (nm:=d.name) (st:=p.1) he);have Ml:=aa (HS9.o.below HB.o);obtain ⟨bd,ao8,usd,hsp,_,ao9,_,Qw,Xu⟩:=Ml.o.gr.Gb.elem HD.o;obtain ⟨td,rfl,_⟩:=Qw;have g6:=Ml.o.gc 6 _ rfl;rw [hsp] at g6;have d0:=Xu 0 _ rfl;rw [fg] at d0;have Ox:wr.cell? ⟨bx,k,none⟩=some (.slice (some ⟨bp,PC,none⟩) x.length cu):=(HB.o.cell (p:=⟨bx,k,none⟩) sk).trans Oy.o;have hpc:wr.cell? ⟨bp,PC+m*2,none⟩=some (.int .i64 p.1):=(HB.o.cell (p:=⟨bp,PC+m*2,none⟩) hbp).trans SB.o;have hst:aj1 d.name p.1 e=((e.1.toList == d.name.toList)&&(e.2 == p.1)):=rfl;rw [hst] at JO;clear he hcv ez cT Xu hsp Ml hst q0;generalize ao4:(E.take j).any (aj1 d.name p.1)=acc at *;clear ao4
       go_upto_region 20 with (fail)
       cases acc with
       | true =>
        go_quiet (fail);go_wp2;go_roundw
        case rel=>exact ⟨j+1,by omega,by go_num,by rw [JO.o];rfl,ag4 HB.o⟩
        case measure=>simp [intOf];omega
       | false =>
        cases pD:(e.1.toList == d.name.toList) with
        | false =>
         go_quiet (fail);go_wp2;go_roundw
         case rel=>exact ⟨j+1,by omega,by go_num,by rw [JO.o,pD];rfl,ag4 HB.o⟩
         case measure=>simp [intOf];omega
        | true =>
         have ao2:=aa pD;cases hst:(e.2 == p.1) with
         | false =>
          have HST2:=aa hst;go_quiet (fail);go_wp2;go_roundw
          case rel=>exact ⟨j+1,by omega,by go_num,by rw [JO.o,ao2.o,HST2.o];rfl,ag4 HB.o⟩
          case measure=>simp [intOf];omega
         | true =>
          have HST2:=aa hst;go_quiet (fail);go_wp2;go_roundw
          case rel=>exact ⟨j+1,by omega,by go_num,by rw [JO.o,ao2.o,HST2.o];rfl,ag4 HB.o⟩
          case measure=>simp [intOf];omega
      ·obtain rfl:j=E.length:=by omega
       rw [cI,Uy.o];go_wp2;go_roundw
       case rel=>exact ⟨m+1,by omega,by go_num,HB.o⟩
       case measure=>simp [intOf];omega
    ·obtain rfl:m=x.length:=by omega
     go_wp2;go_roundw
     case rel=>exact ⟨k+1,by omega,by go_num,HB.o⟩
     case measure=>simp [intOf];omega
  ·obtain rfl:k=g.Gb.length:=by omega
   have Ml:=aa (HS9.o.below HB.o);have XV:=aa (wR wr Ml.o.sf);have B3:=aa Ml.o.bl
   go_wp2_with fail
   refine XV.o.mono ?_;rintro e w11 ⟨rfl,hb11⟩;have C7:=aa (B3.o.trans (hb11.mono B3.o.size));clear hb11;go_wp2;go_ret;exact ⟨rfl,C7.o⟩
end Go.Proofs.YtjdfihglehfelaaGreatDoor
