/- Lemmas: ModH, ModI, ModJ, ModK, ModL, ModZ, NeeA, ModM, ModN, ModO, ModP, ModQ, ModR, ModS, ModT, ModU, ModV, ModW, ModX, ModZa, ModZb. -/
import Derived.Test.YtillcmhjhajimaaGreatDoorQj11
import Derived.Laws.EntriesVeiled
import Derived.WideMake
set_option maxRecDepth 100000
set_option maxHeartbeats 32000000
set_option linter.all false
namespace Go.Proofs.YtillcmhjhajimaaGreatDoor
open Go.Proofs.Tryz
open Go.RowKit Go.Maps Go.Shelf
variable {c1 c3 c5 c6 c9 c11 c12 c13 c14 c15 c16 c17 c18 c19 c20 c21 c22 c23 c24 c25 c26 c27 c28 c29 c30 c31 c32 c33 c34 c35 c36 c37 c38 c39 c40 c41 c42 c43 c44 c45 c46 c47 c48 c49 c50 c51 c52 c53 c54 c55 c56 c57 c58 c59 c60 c61 c62 c63 c64 c65 c66 c67 c68 c69 c70 c71 c72 c73 c74 c75 c76 c77 c78 c79 c80 c81 c82 c83 c84 c85 c86 c87 c88 c89 c90 c91 c92 c93 c94 c95 c96 c97 c98 c99 c100 c101 c102 c103 c104 c105 c106 c107:Value}{k n:Nat}{l:List ByteArray}{nm x:ByteArray}{w w':World}{s:aB}{d:az}
theorem pI{ok:Nat->Prop}(Q:Exit->Act->World->Prop){c0 c4 c8 c10:Value}(w:World)(g:af)(a:bN)(bc sm Bx:Nat)(nm:ByteArray)(Bc:Nat)(Hh:Bc<w.heap.size)(hcc:w.cell? Bc=some (.pointer (some bc)))(hx:w.heap[bc]?=some (.cells #[.string g.name,.int .u64 g.id,.int .i64 g.seq,.int .i64 g.Gd,.int .i64 g.next,.slice a.tp g.tags.length a.tc,.slice a.dp g.Gb.length a.dc,.slice a.vp g.F9.length a.vc,.slice a.hp g.history.length a.hc,.map (some sm)] 121 (0,0)))(hn:w.cell? (Tac Bx 1)=some (.string nm))(PX:Bx<w.heap.size)
  (hg:dN ok w g a) (hz:JT g) (x:az) (Tz:Bool) (Yh:(bH g.Gb nm).getD gT=x) (N3:(bH g.Gb nm).isSome=Tz)
  (HK:Hid (∀(tp:Option Addr) (tc:Nat) (b:Nat) (W':World),Below w.heap.size w W'->w.heap.size<=b->W'.heap[b]?=some (.cells (Tah x tp tc) 39 (0,0))->aO (fun k=>(ok k/\k<w.heap.size)\/(w.heap.size<=k/\k≠b)) W' [.string x.name,.int .u64 x.id,.int .i64 x.first,.int .i64 x.Gc,.bool x.closed,.bool x.missing,.slice tp x.tags.length tc] x->Q .normal ⟨#[c0,c1,.pointer (some Bc),c3,c4,c5,c6,.pointer (some Bx),.pointer (some b),.bool Tz,c10,c11,c12,c13,c14,c15,c16,c17,c18,c19,c20,c21,c22,c23,c24,c25,c26,.tuple #[.agg (Tah x tp tc),.bool Tz],.pointer (some bc),.pointer (some bc),.pointer (some bc),.agg (Tad g a),.pointer (some (Tac Bx 1)),.string nm,.tuple #[.agg (Tah x tp tc),.bool Tz],.agg (Tah x tp tc),.bool Tz,c37,c38,c39,c40,c41,c42,c43,c44,c45,c46,c47,c48,c49,c50,c51,c52,c53,c54,c55,c56,c57,c58,c59,c60,c61,c62,c63,c64,c65,c66,c67,c68,c69,c70,c71,c72,c73,c74,c75,c76,c77,c78,c79,c80,c81,c82,c83,c84,c85,c86,c87,c88,c89,c90,c91,c92,c93,c94,c95,c96,c97,c98,c99,c100,c101,c102,c103,c104,c105,c106,c107],[]⟩ W'))
  (hQ:∀c (a:Act) (d:Tmp) (v:Value) w,Q (.panic c) (a.put (some d) v) w->Q (.panic c) a w) :
  (Ai Tryz.f119 6).wp prog Q ⟨#[c0,c1,.pointer (some Bc),c3,c4,c5,c6,.pointer (some Bx),c8,c9,c10,c11,c12,c13,c14,c15,c16,c17,c18,c19,c20,c21,c22,c23,c24,c25,c26,c27,c28,c29,c30,c31,c32,c33,c34,c35,c36,c37,c38,c39,c40,c41,c42,c43,c44,c45,c46,c47,c48,c49,c50,c51,c52,c53,c54,c55,c56,c57,c58,c59,c60,c61,c62,c63,c64,c65,c66,c67,c68,c69,c70,c71,c72,c73,c74,c75,c76,c77,c78,c79,c80,c81,c82,c83,c84,c85,c86,c87,c88,c89,c90,c91,c92,c93,c94,c95,c96,c97,c98,c99,c100,c101,c102,c103,c104,c105,c106,c107],[]⟩ w:=by
 conv=>arg 2;whnf
 have vh:=aq hx;have hS:∀w':World,Below w.heap.size w w'->(w'.cell? (Tac Bx 1)=some (.string nm)/\w'.cell? bc=some (.string g.name)/\w'.cell? (Tac bc 1)=some (.int .u64 g.id)/\w'.cell? (Tac bc 2)=some (.int .i64 g.seq)/\w'.cell? (Tac bc 3)=some (.int .i64 g.Gd)/\w'.cell? (Tac bc 4)=some (.int .i64 g.next)/\w'.cell? (Tac bc 5)=some (.slice a.tp g.tags.length a.tc)/\w'.cell? (Tac bc 6)=some (.slice a.dp g.Gb.length a.dc)/\w'.cell? (Tac bc 7)=some (.slice a.vp g.F9.length a.vc)/\w'.cell? (Tac bc 8)=some (.slice a.hp g.history.length a.hc)/\w'.cell? Bc=some (.pointer (some bc))):=fun w' e=>by
  have h2:=(e.block bc vh).trans hx;exact⟨(e.cell (p:=⟨Bx,1,none⟩) PX).trans hn,cr h2 _ _ rfl,cr h2 _ _ rfl,cr h2 _ _ rfl,cr h2 _ _ rfl,cr h2 _ _ rfl,cr h2 _ _ rfl,cr h2 _ _ rfl,cr h2 _ _ rfl,cr h2 _ _ rfl,(e.cell (p:=Bc) Hh).trans hcc⟩
 have HS:=aa hS;clear hS;have Rj:Hid (∀W:World,Below w.heap.size w W->dN (fun k=>ok k/\k<w.heap.size) W g a):=aa fun W hb=>hg.mv ⟨hb.size,fun k hk ho=>⟨⟨ho,hk⟩,hb.block k hk⟩⟩;have HZ:=aa hz;clear hz hg hx hn hcc
 have hC:∀W:World,Below w.heap.size w W->Calls prog 24 #[.agg (Tad g a),.string nm] W fun e w'=>∃(tp:Option Addr) (tc:Nat),e=.returned (.tuple #[.agg (Tah x tp tc),.bool Tz])/\aO (fun k=>(ok k/\k<w.heap.size)\/W.heap.size<=k) w' [.string x.name,.int .u64 x.id,.int .i64 x.first,.int .i64 x.Gc,.bool x.closed,.bool x.missing,.slice tp x.tags.length tc] x/\Below W.heap.size W w':=fun W hb=>by
  exact Ta7
 have HC:=aa hC;clear hC Yh N3;refine aZ (fun w'=>w'.cell? (Tac Bx 1)=some (.string nm)/\w'.cell? bc=some (.string g.name)/\w'.cell? (Tac bc 1)=some (.int .u64 g.id)/\w'.cell? (Tac bc 2)=some (.int .i64 g.seq)/\w'.cell? (Tac bc 3)=some (.int .i64 g.Gd)/\w'.cell? (Tac bc 4)=some (.int .i64 g.next)/\w'.cell? (Tac bc 5)=some (.slice a.tp g.tags.length a.tc)/\w'.cell? (Tac bc 6)=some (.slice a.dp g.Gb.length a.dc)/\w'.cell? (Tac bc 7)=some (.slice a.vp g.F9.length a.vc)/\w'.cell? (Tac bc 8)=some (.slice a.hp g.history.length a.hc)/\w'.cell? Bc=some (.pointer (some bc))) 13 [] TcP (HS.o _ (bj _ _).drew) (fun hHeld=>?_);exact TaP
theorem oG{ok:Nat->Prop}(Q:Exit->Act->World->Prop){c0 c7 c8 c10:Value}(w:World)(g:af)(a:bN)(bc sm Bx:Nat)(nm:ByteArray)(Bc:Nat)(Hh:Bc<w.heap.size)(hcc:w.cell? Bc=some (.pointer (some bc)))(hx:w.heap[bc]?=some (.cells #[.string g.name,.int .u64 g.id,.int .i64 g.seq,.int .i64 g.Gd,.int .i64 g.next,.slice a.tp g.tags.length a.tc,.slice a.dp g.Gb.length a.dc,.slice a.vp g.F9.length a.vc,.slice a.hp g.history.length a.hc,.map (some sm)] 121 (0,0)))(hn:w.cell? (Tac Bx 7)=some (.string nm))(PX:Bx<w.heap.size)
  (hg:dN ok w g a) (hz:JT g) (x:ay) (Tz:Bool) (Yh:(aM g.F9 nm).getD eY=x) (N3:(aM g.F9 nm).isSome=Tz)
  (HK:Hid (∀(tp:Option Addr) (tc:Nat) (sp:Option Addr) (sc:Nat) (b:Nat) (W':World),Below w.heap.size w W'->w.heap.size<=b->W'.heap[b]?=some (.cells (Taf x tp tc sp sc) 57 (0,0))->aN (fun k=>(ok k/\k<w.heap.size)\/(w.heap.size<=k/\k≠b)) W' [.string x.name,.int .u64 x.id,.bool x.hidden,.bool x.ro,.slice tp x.tags.length tc,.slice sp x.Gf.length sc] x->Q .normal ⟨#[c0,c1,.pointer (some Bc),c3,.pointer (some Bx),c5,c6,c7,c8,c9,.pointer (some b),.bool Tz,c12,c13,c14,c15,c16,c17,c18,c19,c20,c21,c22,c23,c24,c25,c26,c27,c28,c29,c30,c31,c32,c33,c34,c35,c36,c37,c38,c39,c40,c41,c42,c43,c44,c45,c46,c47,c48,c49,c50,c51,c52,c53,c54,c55,c56,c57,c58,c59,c60,c61,c62,c63,c64,c65,c66,c67,c68,c69,.tuple #[.agg (Taf x tp tc sp sc),.bool Tz],.pointer (some bc),.pointer (some bc),.pointer (some bc),.agg (Tad g a),.pointer (some (Tac Bx 7)),.string nm,.tuple #[.agg (Taf x tp tc sp sc),.bool Tz],.agg (Taf x tp tc sp sc),.bool Tz,c80,c81,c82,c83,c84,c85,c86,c87,c88,c89,c90,c91,c92,c93,c94,c95,c96,c97,c98,c99,c100,c101,c102,c103,c104,c105,c106,c107],[]⟩ W'))
  (hQ:∀c (a:Act) (d:Tmp) (v:Value) w,Q (.panic c) (a.put (some d) v) w->Q (.panic c) a w) :
  (Ai Tryz.f119 13).wp prog Q ⟨#[c0,c1,.pointer (some Bc),c3,.pointer (some Bx),c5,c6,c7,c8,c9,c10,c11,c12,c13,c14,c15,c16,c17,c18,c19,c20,c21,c22,c23,c24,c25,c26,c27,c28,c29,c30,c31,c32,c33,c34,c35,c36,c37,c38,c39,c40,c41,c42,c43,c44,c45,c46,c47,c48,c49,c50,c51,c52,c53,c54,c55,c56,c57,c58,c59,c60,c61,c62,c63,c64,c65,c66,c67,c68,c69,c70,c71,c72,c73,c74,c75,c76,c77,c78,c79,c80,c81,c82,c83,c84,c85,c86,c87,c88,c89,c90,c91,c92,c93,c94,c95,c96,c97,c98,c99,c100,c101,c102,c103,c104,c105,c106,c107],[]⟩ w:=by
 conv=>arg 2;whnf
 have vh:=aq hx;have hS:∀w':World,Below w.heap.size w w'->(w'.cell? (Tac Bx 7)=some (.string nm)/\w'.cell? bc=some (.string g.name)/\w'.cell? (Tac bc 1)=some (.int .u64 g.id)/\w'.cell? (Tac bc 2)=some (.int .i64 g.seq)/\w'.cell? (Tac bc 3)=some (.int .i64 g.Gd)/\w'.cell? (Tac bc 4)=some (.int .i64 g.next)/\w'.cell? (Tac bc 5)=some (.slice a.tp g.tags.length a.tc)/\w'.cell? (Tac bc 6)=some (.slice a.dp g.Gb.length a.dc)/\w'.cell? (Tac bc 7)=some (.slice a.vp g.F9.length a.vc)/\w'.cell? (Tac bc 8)=some (.slice a.hp g.history.length a.hc)/\w'.cell? Bc=some (.pointer (some bc))):=fun w' e=>by
  have h2:=(e.block bc vh).trans hx;exact⟨(e.cell (p:=⟨Bx,7,none⟩) PX).trans hn,cr h2 _ _ rfl,cr h2 _ _ rfl,cr h2 _ _ rfl,cr h2 _ _ rfl,cr h2 _ _ rfl,cr h2 _ _ rfl,cr h2 _ _ rfl,cr h2 _ _ rfl,cr h2 _ _ rfl,(e.cell (p:=Bc) Hh).trans hcc⟩
 have HS:=aa hS;clear hS;have Rj:Hid (∀W:World,Below w.heap.size w W->dN (fun k=>ok k/\k<w.heap.size) W g a):=aa fun W hb=>hg.mv ⟨hb.size,fun k hk ho=>⟨⟨ho,hk⟩,hb.block k hk⟩⟩;have HZ:=aa hz;clear hz hg hx hn hcc
 have hC:∀W:World,Below w.heap.size w W->Calls prog 43 #[.agg (Tad g a),.string nm] W fun e w'=>∃(tp:Option Addr) (tc:Nat) (sp:Option Addr) (sc:Nat),e=.returned (.tuple #[.agg (Taf x tp tc sp sc),.bool Tz])/\aN (fun k=>(ok k/\k<w.heap.size)\/W.heap.size<=k) w' [.string x.name,.int .u64 x.id,.bool x.hidden,.bool x.ro,.slice tp x.tags.length tc,.slice sp x.Gf.length sc] x/\Below W.heap.size W w':=fun W hb=>by
  refine(fA g a nm W (ok:=fun k=>ok k/\k<w.heap.size) (dN.F9 (Rj.o W hb)) HZ.o.vl HZ.o.vz).mono ?_;rintro e w' ⟨u,rfl,hv,hb'⟩;rw[Yh]at hv;rw[N3];obtain⟨t,u,rfl,ht,hu⟩:=hv;obtain⟨tp,tc,rfl,_,_⟩:=ht.cap;obtain⟨sp,sc,rfl,_,_⟩:=hu.cap;have sA:aN _ w' _ _:=⟨_,_,rfl,ht,hu⟩;exact⟨_,_,_,_,rfl,sA,hb'⟩
 have HC:=aa hC;clear hC Yh N3;refine aZ (fun w'=>w'.cell? (Tac Bx 7)=some (.string nm)/\w'.cell? bc=some (.string g.name)/\w'.cell? (Tac bc 1)=some (.int .u64 g.id)/\w'.cell? (Tac bc 2)=some (.int .i64 g.seq)/\w'.cell? (Tac bc 3)=some (.int .i64 g.Gd)/\w'.cell? (Tac bc 4)=some (.int .i64 g.next)/\w'.cell? (Tac bc 5)=some (.slice a.tp g.tags.length a.tc)/\w'.cell? (Tac bc 6)=some (.slice a.dp g.Gb.length a.dc)/\w'.cell? (Tac bc 7)=some (.slice a.vp g.F9.length a.vc)/\w'.cell? (Tac bc 8)=some (.slice a.hp g.history.length a.hc)/\w'.cell? Bc=some (.pointer (some bc))) 13 [] TcP (HS.o _ (bj _ _).drew) (fun hHeld=>?_);refine cH hQ 0 hHeld ?_;refine cH hQ 1 hHeld ?_;refine cH hQ 2 hHeld ?_;refine cH hQ 3 hHeld ?_;refine cH hQ 4 hHeld ?_;refine cH hQ 5 hHeld ?_;refine mh (i:=6) (j:=10) rfl rfl rfl rfl TcP (fun K hK=>?_) (fun K hK=>?_)
 ·go_simp;refine(HC.o _ (bj _ _).drew).mono ?_;rintro e w1 ⟨tp,tc,sp,sc,rfl,hv1,hb1⟩;have hb1':Below w.heap.size w w1:=⟨hb1.os,hb1.tape,hb1.output,hb1.size,hb1.block⟩;refine hK.o _ _ (HS.o _ hb1') ?_;clear hK K hHeld;have hHeld:=HS.o _ hb1';have Zx:=aa hv1;clear hv1 hb1;have cU:=aa hb1';clear hb1';refine cH hQ 7 hHeld ?_;refine cH hQ 8 hHeld ?_;refine cH hQ 9 hHeld ?_;refine lR 10 fun K hK=>?_;go_simp;have hb2:Below w.heap.size w (w1.alloc (.cells Tai 57)):=cU.o.alloc cU.o.size _;refine hK.o _ _ (HS.o _ hb2) ?_;clear hK K hHeld;have gh:=b9 w1 (.cells Tai 57);have gO:w1.heap.size<(w1.alloc (.cells Tai 57)).heap.size:=by simp
  have hv2:aN (fun k=>(ok k/\k<w.heap.size)\/(w.heap.size<=k/\k<w1.heap.size)) (w1.alloc (.cells Tai 57)) [.string x.name,.int .u64 x.id,.bool x.hidden,.bool x.ro,.slice tp x.tags.length tc,.slice sp x.Gf.length sc] x:=aN.moves.mv ⟨TcO,fun k hk ho=>⟨ho.imp id (fun q=>⟨q,hk⟩),cj _ _ _ hk⟩⟩ Zx.o;have mA:=cU.o.size;generalize hW2:World.alloc w1 _=W2 at *;generalize hb0:w1.heap.size=b0 at *;clear hW2 hb0 Zx cU;have Vn:=aa hv2;clear hv2;obtain⟨zf,z0,z1,z2,z3,z4,z5⟩:=BO gh;obtain⟨sb,sk,so⟩:=zQ gh (.string x.name) (.int .u64 x.id) (.bool x.hidden) (.bool x.ro) (.slice tp x.tags.length tc) (.slice sp x.Gf.length sc) _ rfl;have cJ:=aa (sb _ _ mA hb2);have F2:=aa sk;have QW:=aa so;clear sb sk so gh;refine lR 11 fun K hK=>?_;go_simp;refine hK.o _ _ (HS.o _ cJ.o) ?_;clear hK K;refine lR 12 fun K hK=>?_;go_simp;refine hK.o _ _ (HS.o _ cJ.o) ?_;clear hK K;refine aP TcP rfl ?_;simp only[cQ,km,cL];refine HK.o _ _ _ _ b0 _ cJ.o mA F2.o (aN.moves.mv ⟨TcY,fun k hk ho=>⟨?_,?_⟩⟩ Vn.o)
  ·exact TcK
  exact TcJ
 go_simp;have hb2:Below w.heap.size w (w.drew.alloc (.cells Tai 57)):=((bj _ _).drew).alloc (bk _) _;refine hK.o _ _ (HS.o _ hb2) ?_;clear hK K hHeld;have hHeld:=HS.o _ hb2;refine lR 6 fun K hK=>?_;go_simp;refine(HC.o _ hb2).mono ?_;rintro e w1 ⟨tp,tc,sp,sc,rfl,hv1,hb1⟩;have hb1':Below w.heap.size w w1:=hb2.trans (hb1.mono hb2.size);refine hK.o _ _ (HS.o _ hb1') ?_;clear hK K hHeld;have hHeld:=HS.o _ hb1';have gh:=(hb1.block _ TcO).trans (b9 w.drew (.cells Tai 57));have hv2:aN (fun k=>(ok k/\k<w.heap.size)\/(w.heap.size<=k/\w.heap.size<k)) w1 [.string x.name,.int .u64 x.id,.bool x.hidden,.bool x.ro,.slice tp x.tags.length tc,.slice sp x.Gf.length sc] x:=aN.moves.mv ⟨bk _,fun k hk ho=>⟨ho.imp id (fun q=>by simp at q;omega),rfl⟩⟩ hv1;have mA:w.heap.size<=w.heap.size:=bk _;have gh:w1.heap[w.heap.size]?=some (.cells Tai 57 (0,0)):=gh;clear hb2;have hb2:=hb1';clear hv1 hb1 hb1';generalize w1=W2 at *;refine cH hQ 7 hHeld ?_;refine cH hQ 8 hHeld ?_;refine cH hQ 9 hHeld ?_;have Vn:=aa hv2;clear hv2;obtain⟨zf,z0,z1,z2,z3,z4,z5⟩:=BO gh;obtain⟨sb,sk,so⟩:=zQ gh (.string x.name) (.int .u64 x.id) (.bool x.hidden) (.bool x.ro) (.slice tp x.tags.length tc) (.slice sp x.Gf.length sc) _ rfl;have cJ:=aa (sb _ _ mA hb2);have F2:=aa sk;have QW:=aa so;clear sb sk so gh;refine lR 11 fun K hK=>?_;go_simp;refine hK.o _ _ (HS.o _ cJ.o) ?_;clear hK K;refine lR 12 fun K hK=>?_;go_simp;refine hK.o _ _ (HS.o _ cJ.o) ?_;clear hK K;refine aP TcP rfl ?_;simp only[cQ,km,cL];refine HK.o _ _ _ _ w.heap.size _ cJ.o mA F2.o (aN.moves.mv ⟨TcY,fun k hk ho=>⟨?_,?_⟩⟩ Vn.o)
 ·exact TcK
 exact TcJ
structure wM(s:aB):Prop where
 l0:1<=s.length
 l1:s.length<=32768
 ar:s.Ga.length<=6
 p5:s.kind=5->2<=s.Ga.length
 p7:s.kind=7->3<=s.Ga.length
def fI(g:af)(s:aB)(r:aR):Bool:=r.vol||(decide (0<=r.start)&&decide (r.start<=((bH g.Gb r.on).getD gT).Gc)&&decide (iB s.kind s.length s.Ga.length<=((bH g.Gb r.on).getD gT).Gc-r.start))
def dh(g:af)(nm:ByteArray):Bool:=eZ ((aM g.F9 nm).getD eY)==6||eZ ((aM g.F9 nm).getD eY)==5
def mM(g:af)(v:ay)(s:aB):Int :=
 if jw g s=false then 12 else if s.Ga.all (fI g s)=false then 1 else if jS v s=false then 10 else if s.kind=6/\¬eZ ((aM g.F9 s.pool).getD eY)=5 then 17
 else if(dD s false).any (dh g)=true then 17 else 0
theorem zV{k l:Int}(h0:0<=l):0<=iB k l n/\iB k l n<=l:=by
 unfold iB;split
 ·exact⟨lz h0 TcN,mS _ h0⟩
 omega
theorem Da{Gb:List az}(h:∀d∈Gb,0<=d.Gc/\d.Gc<=1000000):0<=((bH Gb nm).getD gT).Gc/\((bH Gb nm).getD gT).Gc<=1000000:=by
 cases hf:bH Gb nm with
 |none=>simp[gT]
 |some d=>exact h d (eV hf)
def aA(F9:List ay):List (ay × aB):=F9.flatMap fun v=>v.Gf.map fun s=>(v,s)
def bD(E:List (ay × aB)->ay->aB->Int):List (ay × aB)->List (ay × aB)->ByteArray × Int
 |_,[]=>(⟨#[]⟩,0)
 |pre,(v,s) :: r=>if E pre v s=0 then bD E (pre++[(v,s)]) r else(v.name,E pre v s)
theorem xB(F9:List ay)(k:Nat)(v:ay)(h:F9[k]?=some v):aA (F9.take (k+1))=aA (F9.take k)++v.Gf.map (fun s=>(v,s)):=by
 rw[take_snoc' F9 k v h];simp[aA]
theorem vI(F9:List ay)(k:Nat)(v:ay)(h:F9[k]?=some v)(j:Nat)(s:aB)(hs:v.Gf[j]?=some s) :
  aA F9=(aA (F9.take k)++(v.Gf.take j).map (fun s=>(v,s)))++(v,s) :: ((v.Gf.drop (j+1)).map (fun s=>(v,s))++aA (F9.drop (k+1))):=by
 obtain⟨hk,hv⟩:=List.getElem?_eq_some_iff.1 h;obtain⟨hj,hs'⟩:=List.getElem?_eq_some_iff.1 hs;conv=>lhs;rw[<- rk k F9,tB hk,hv]
 have e:v.Gf=v.Gf.take j++s :: v.Gf.drop (j+1):=by
  conv=>lhs;rw[<- rk j v.Gf,tB hj,hs']
 unfold aA;rw[xt,lB];conv=>lhs;rw[e]
 simp
theorem Mv.mod{ok F:Nat->Prop}(hm:cR F w w')(hF:∀k,F k->¬ok k):Mv ok ok w w':=⟨hm.size,fun b hb ho=>⟨ho,hm.block b hb (fun f=>hF b f ho)⟩⟩
def fV(F9:List ay)(k j:Nat)(v:ay):List (ay × aB):=(v.Gf.drop j).map (fun s=>(v,s))++aA (F9.drop (k+1))
def bW(F9:List ay)(k j:Nat)(v:ay):List (ay × aB):=aA (F9.take k)++(v.Gf.take j).map (fun s=>(v,s))
theorem eQ(F9:List ay)(k:Nat)(v:ay):bW F9 k 0 v=aA (F9.take k):=by simp[bW]
theorem fG(F9:List ay)(k j:Nat)(v:ay)(s:aB)(hs:v.Gf[j]?=some s):bW F9 k (j+1) v=bW F9 k j v++[(v,s)]:=by
 unfold bW;rw[take_snoc' v.Gf j s hs];simp
theorem fJ(F9:List ay)(k:Nat)(v:ay)(h:F9[k]?=some v):bW F9 k v.Gf.length v=aA (F9.take (k+1)):=by
 unfold bW;rw[cI,xB F9 k v h]
theorem jB(F9:List ay)(k j:Nat)(v:ay)(s:aB)(h:F9[k]?=some v)(hs:v.Gf[j]?=some s):aA F9=bW F9 k j v++(v,s) :: fV F9 k (j+1) v:=vI F9 k v h j s hs
theorem jZ{F9:List ay}{pre post:List (ay × aB)}{v:ay}(h:aA F9=pre++(v,s) :: post):v∈F9/\s∈v.Gf:=by
 have:(v,s)∈aA F9:=by rw[h];simp
 obtain⟨v',hv,hs⟩:=List.mem_flatMap.1 this;obtain⟨s',hs',e⟩:=List.mem_map.1 hs;injection e with e1 e2;subst e1;subst e2;exact⟨hv,hs'⟩
theorem cR.none(h:cR (fun _=>False) w w'):Below w.heap.size w w':=h.below (bk _) (fun _ f=>f.elim)
structure UQ(g:af):Prop where
 sz:JT g
 de:∀d∈g.Gb,0<=d.Gc/\d.Gc<=1000000
 ext:1<=g.Gd/\g.Gd<=1024
 vn:∀v∈g.F9,v.name.size<=1000000000
 sf:∀v∈g.F9,∀s∈v.Gf,wM s
def mY(g:af):ByteArray × Int:=bD (fun _ v s=>mM g v s) [] (aA g.F9)
def qV(ext:Int)(n:Nat):List aB->Int->Int
 |[],_=>0
 |s :: r,st=>if bJ ext s st=false then 2 else if 1<n/\(oO s.kind).several=false then 17 else qV ext n r (st+s.length)
def iM(f:ay->Int):List ay->ByteArray × Int
 |[]=>(⟨#[]⟩,0)
 |v :: r=>if f v=0 then iM f r else(v.name,f v)
def DW(g:af)(v:ay):Int:=qV g.Gd v.Gf.length v.Gf 0
def iP(g:af):ByteArray × Int:=iM (DW g) g.F9
theorem drop_at{α:Type}{l:List α}{x:α}(h:l[k]?=some x):l.drop k=x :: l.drop (k+1):=by
 obtain⟨hk,rfl⟩:=List.getElem?_eq_some_iff.1 h;exact tB hk
theorem CP{ext:Int}{l:List aB}(h:l[k]?=some s)(st:Int):qV ext n (l.drop k) st=if bJ ext s st=false then 2 else if 1<n/\(oO s.kind).several=false then 17 else qV ext n (l.drop (k+1)) (st+s.length):=by
 rw[drop_at h];rfl
theorem vw(x:eX)(w:World):(Instr.field 159 (.agg (Tal x)) 3).run prog w=.ok (.bool x.several) w:=by kernel_rfl
def Ct(g:af):Prop:=∀v∈g.F9,∀s∈v.Gf,(Lit.int .i64 s.kind).wf=true
theorem cR.grown{b:Nat}(g:w.grownBy w' (some b)):cR (fun k=>k=b) w w':=⟨g.os,g.tape,g.output,g.size,fun k hk hne=>g.block k hk (fun e=>hne (by injection e))⟩
def NK(M:List (ByteArray × Int × Int))(nm:ByteArray)(i:Nat):Bool:=M.any fun m=>decide (m.1=nm)&&(decide (m.2.1<=(i:Int))&&decide ((i:Int)<m.2.1+m.2.2))
def bz(M:List (ByteArray × Int × Int))(d:az):List Bool:=(List.range d.Gc.toNat).map (NK M d.name)
def tV(M:List (ByteArray × Int × Int))(nm:ByteArray)(st n:Int):Bool:=(List.range n.toNat).any fun j=>NK M nm (st.toNat+j)
def nP(n:Int):List (ByteArray × Int × Int)->List aR->Bool
 |_,[]=>false
 |M,a :: r=>if a.vol=true then nP n M r else if tV M a.on a.start n=true then true else nP n (M++[(a.on,a.start,n)]) r
def dC(n:Int)(l:List aR):List (ByteArray × Int × Int):=(l.filter fun a=>!a.vol).map fun a=>(a.on,a.start,n)
def aX(s:aB):Int:=iB s.kind s.length s.Ga.length
def lU(pre:List (ay × aB)):List (ByteArray × Int × Int):=pre.flatMap fun p=>dC (aX p.2) p.2.Ga
def CQ(pre:List (ay × aB))(_:ay)(s:aB):Int:=if nP (aX s) (lU pre) s.Ga=true then 15 else 0
def IW(pre:List (ay × aB))(_:ay)(s:aB):Int:=if s.kind=6 then(if pre.any (fun p=>decide (p.2.kind=6)&&(decide (p.2.pool=s.pool)&&decide (p.2.device=s.device)))=true then 9 else 0) else 0
def pE(g:af):ByteArray × Int:=if(bD CQ [] (aA g.F9)).2=0 then bD IW [] (aA g.F9) else bD CQ [] (aA g.F9)
theorem nO(M:List (ByteArray × Int × Int))(m:ByteArray × Int × Int)(nm:ByteArray)(i:Nat):NK (M++[m]) nm i=(NK M nm i||(decide (m.1=nm)&&(decide (m.2.1<=(i:Int))&&decide ((i:Int)<m.2.1+m.2.2)))):=by
 unfold NK;rw[rj];simp
theorem gP(M:List (ByteArray × Int × Int))(d:az):(bz M d).length=d.Gc.toNat:=by simp[bz]
theorem gU{M:List (ByteArray × Int × Int)}{i:Nat}(h:i<d.Gc.toNat):(bz M d)[i]?=some (NK M d.name i):=by simp[bz,h]
theorem lQ(M:List (ByteArray × Int × Int))(d:az)(m:ByteArray × Int × Int)(h:¬m.1=d.name):bz (M++[m]) d=bz M d:=by
 unfold bz;refine List.map_congr_left fun i _=>?_;rw[nO];simp[h]
theorem vQ(M:List (ByteArray × Int × Int))(d:az)(nm:ByteArray)(st:Int):bz (M++[(nm,st,0)]) d=bz M d:=by
 unfold bz;refine List.map_congr_left fun i _=>?_;rw[nO]
 have:(decide (st<=(i:Int))&&decide ((i:Int)<st+0))=false:=by
  rw[<- Bool.decide_and];exact cN TcN
 simp only[this,Bool.and_false,Bool.or_false]
theorem xH(M:List (ByteArray × Int × Int))(d:az)(st:Int)(j:Nat)(h0:0<=st):(bz (M++[(d.name,st,(j:Int))]) d).set (st.toNat+j) true=bz (M++[(d.name,st,((j+1:Nat):Int))]) d:=by
 refine Bk fun i=>?_;rw[List.getElem?_set]
 by_cases hi:i<d.Gc.toNat
 ·rw[gU hi,gU hi,gP];rw[nO,nO];simp only[decide_true,Bool.true_and,<- Bool.decide_and];split
  ·rename_i e;subst e;rw[aw hi];have:decide (st<=((st.toNat+j:Nat):Int)/\((st.toNat+j:Nat):Int)<st+((j+1:Nat):Int))=true:=eA TcN;rw[this,Bool.or_true]
  rename_i e;congr 1
  have:(st<=(i:Int)/\(i:Int)<st+(j:Int))↔(st<=(i:Int)/\(i:Int)<st+((j+1:Nat):Int)):=by omega
  simp only[this]
 have h1:∀M',(bz M' d)[i]?=none:=fun M'=>xj (by rw[gP];omega)
 rw[h1,h1,gP];split
 ·rename_i e;subst e;rw[bh hi]
 rfl
theorem D5(M:List (ByteArray × Int × Int))(d:az)(st n:Int)(h0:0<=st)(hn:0<=n)(h:st+n<=d.Gc):(((bz M d).drop st.toNat).take n.toNat).any id=tV M d.name st n:=by
 have e:((bz M d).drop st.toNat).take n.toNat=(List.range n.toNat).map fun j=>NK M d.name (st.toNat+j):=by
  refine Bk fun i=>?_;rw[xF]
  by_cases hi:i<n.toNat
  ·rw[aw hi,pk,gU TcN];simp[hi]
  rw[bh hi];exact(xj (by rw[fW,List.length_range];omega)).symm
 rw[e];unfold tV;rw[List.any_map];rfl
theorem xC(n:Int)(l:List aR)(k:Nat)(a:aR)(h:l[k]?=some a):dC n (l.take (k+1))=if a.vol=true then dC n (l.take k) else dC n (l.take k)++[(a.on,a.start,n)]:=by
 rw[take_snoc' l k a h];unfold dC;cases hv:a.vol<;>simp[hv]
theorem Ee(n:Int)(M:List (ByteArray × Int × Int)){l:List aR}{a:aR}(h:l[k]?=some a):nP n M (l.drop k)=if a.vol=true then nP n M (l.drop (k+1)) else if tV M a.on a.start n=true then true else nP n (M++[(a.on,a.start,n)]) (l.drop (k+1)):=by
 rw[drop_at h];rfl
def vG(L:List (az × Nat)):Value->Option Value
 |.string s=>(L.find? fun p=>decide (p.1.name=s)).map fun p=>.slice (some ⟨p.2,0,none⟩) p.1.Gc.toNat p.1.Gc.toNat
 |_=>none
theorem Tdt{p:Prop}(h:p:=by rw[e]):p:=h
theorem Av(L:List (az × Nat))(d:az)(b:Nat)(h:∀p∈L,¬p.1.name=d.name)(key:Value):vG (L++[(d,b)]) key=upd (vG L) (.string d.name) (.slice (some b) d.Gc.toNat d.Gc.toNat) key:=by
 by_cases hk:key=.string d.name
 ·subst hk;rw[upd_same];show((L++[(d,b)]).find? fun p=>decide (p.1.name=d.name)).map _=_;rw[tD,List.find?_eq_none.2 (fun p hp=>by simpa using h p hp)];simp
 rw[bP hk];unfold vG;split
 ·rename_i s;have:¬d.name=s:=fun e=>hk Tdt;rw[tD];simp[this]
 rfl
theorem Dv{L:List (az × Nat)}(h:bH (L.map (·.1)) nm=some d):∃b,(d,b)∈L/\d.name=nm/\vG L (.string nm)=some (.slice (some ⟨b,0,none⟩) d.Gc.toNat d.Gc.toNat):=by
 unfold bH at h;rw[List.find?_map]at h;obtain⟨p,hp,rfl⟩:=Option.map_eq_some_iff.1 h;refine⟨p.2,eV hp,by simpa using List.find?_some hp,?_⟩;have e:(fun p:az × Nat=>decide (p.1.name=nm))=((fun d:az=>decide (d.name=nm)) ∘ fun x:az × Nat=>x.1):=rfl;show(L.find? fun p=>decide (p.1.name=nm)).map _=_;rw[e,hp];rfl
def bI(l:List ByteArray)(x:ByteArray):Bool:=l.any fun y=>decide (y=x)
theorem ny :bI l x=true↔x∈l:=by
 unfold bI;rw[nh];exact⟨fun⟨y,hy,e⟩=>by rw[<- of_decide_eq_true e];exact hy,fun h=>⟨x,h,TcO⟩⟩
theorem lX :bI l x=false↔x ∉ l:=by
 rw[<- ny];exact Bool.eq_false_iff
theorem fU(l:List ByteArray)(x y:ByteArray):bI (l++[x]) y=(bI l y||decide (x=y)):=by
 unfold bI;rw[rj];simp
def rQ(s:aB):List ByteArray:=((s.Ga.filter (·.vol)).map (·.on))++(if s.log.toList.isEmpty then [] else [s.log])++(if s.pool.toList.isEmpty then [] else [s.pool])
def kY(v:ay):List ByteArray:=v.Gf.flatMap rQ
def dU(F9:List ay)(nm:ByteArray):Option (List ByteArray):=(aM F9 nm).map kY
inductive Reach (lk:ByteArray->Option (List ByteArray))(l0:List ByteArray):ByteArray->Prop
 |base {x:ByteArray}:x∈l0->(lk x).isSome=true->Reach lk l0 x
 |step {x y:ByteArray} {l:List ByteArray}:Reach lk l0 y->lk y=some l->x∈l->(lk x).isSome=true->Reach lk l0 x
structure nX(lk:ByteArray->Option (List ByteArray))(l0 met todo:List ByteArray):Prop where
 m:∀x∈met,Reach lk l0 x
 t:∀x∈todo,(lk x).isSome=true->Reach lk l0 x
 b:∀x∈l0,(lk x).isSome=true->x∈met\/x∈todo
 c:∀y∈met,∀l,lk y=some l->∀x∈l,(lk x).isSome=true->x∈met\/x∈todo
variable {lk:ByteArray->Option (List ByteArray)}{l0 met todo:List ByteArray}
variable {x:ByteArray}{α:Type}
theorem nX.start:nX lk l0 [] l0:=⟨fun _ h=>absurd h TcO,fun _ h hs=>Reach.base h hs,fun _ h _=>Or.inr h,fun _ h=>absurd h TcO⟩
theorem nX.done(h:nX lk l0 met [])(x:ByteArray):x∈met↔Reach lk l0 x:=by
 refine⟨h.m x,fun r=>?_⟩;induction r with
 |base h1 h2=>exact(h.b _ h1 h2).elim id fun q=>by cases q
 |step _ h2 h3 h4 ih=>exact(h.c _ ih _ h2 _ h3 h4).elim id fun q=>by cases q
theorem nX.skip(h:nX lk l0 met (todo++[x]))(hx:(lk x).isSome=false\/x∈met):nX lk l0 met todo:=by
 have key:∀y,(lk y).isSome=true->y∈met\/y∈todo++[x]->y∈met\/y∈todo:=fun y hs q=>by
  rcases q with q|q
  ·exact .inl q
  rcases List.mem_append.1 q with q|q
  ·exact .inr q
  obtain rfl:=List.mem_singleton.1 q;rcases hx with e|e
  ·rw[e]at hs;cases hs
  exact .inl e
 exact⟨h.m,fun y hy=>h.t y (ju _ hy),fun y hy hs=>key y hs (h.b y hy hs),fun y hy l hl z hz hs=>key z hs (h.c y hy l hl z hz hs)⟩
theorem nX.more{l:List ByteArray}(h:nX lk l0 met (todo++[x]))(hx:lk x=some l):nX lk l0 (met++[x]) (todo++l):=by
 have hr:Reach lk l0 x:=h.t x TcO (by rw[hx];rfl);have key:∀y,y∈met\/y∈todo++[x]->y∈met++[x]\/y∈todo++l:=fun y q=>by
  rcases q with q|q
  ·exact .inl (ju _ q)
  rcases List.mem_append.1 q with q|q
  ·exact .inr (ju _ q)
  exact .inl (P9 _ q)
 refine⟨fun y hy=>?_,fun y hy hs=>?_,fun y hy hs=>key y (h.b y hy hs),fun y hy k hk z hz hs=>?_⟩
 ·rcases List.mem_append.1 hy with q|q
  ·exact h.m y q
  obtain rfl:=List.mem_singleton.1 q;exact hr
 ·rcases List.mem_append.1 hy with q|q
  ·exact h.t y (ju _ q) hs
  exact .step hr hx q hs
 rcases List.mem_append.1 hy with q|q
 ·exact key z (h.c y q k hk z hz hs)
 obtain rfl:=List.mem_singleton.1 q;rw[hx]at hk;injection hk with e;subst e;exact .inr (P9 _ hz)
def nK(names:List ByteArray)(U:Nat)(met todo:List ByteArray):Nat:=(names.filter fun n=>!bI met n).length*(U+1)+todo.length
theorem lw(names:List ByteArray)(U:Nat)(met todo:List ByteArray)(x:ByteArray):nK names U met todo<nK names U met (todo++[x]):=by
 unfold nK;rw[cD];simp
theorem kQ{p q:α->Bool}:∀ {l:List α} {x:α},(∀y,q y=true->p y=true)->x∈l->p x=true->q x=false->(l.filter q).length<(l.filter p).length
 |[],_,_,hx,_,_=>by cases hx
 |a :: l,x,Qa,hx,hp,hq=>by
  have hle:(l.filter q).length<=(l.filter p).length:=by
   have e:l.filter q=(l.filter p).filter q:=by
    rw[List.filter_filter];refine A0 fun y _=>?_;cases h:q y<;>simp[h,Qa y]
   rw[e];exact tk ..
  by_cases e:x=a
  ·subst e;simp only[List.filter_cons,hp,hq,ej,pj,fY,cS];omega
  have hx':x∈l:=(List.mem_cons.1 hx).resolve_left e;have ih:=kQ Qa hx' hp hq;by_cases ha:q a=true
  ·simp only[List.filter_cons,ha,Qa a ha,ej,cS];omega
  simp only[List.filter_cons,ha,fY,pj];split
  ·rw[cS];omega
  omega
theorem Ap(names:List ByteArray)(U:Nat)(met todo l:List ByteArray)(x:ByteArray)(hx:x∈names)(hm:x ∉ met)(hl:l.length<=U):nK names U (met++[x]) (todo++l)<nK names U met (todo++[x]):=by
 unfold nK;have h:=kQ (p:=fun n=>!bI met n) (q:=fun n=>!bI (met++[x]) n) (l:=names) (x:=x) (fun y hy=>by rw[fU]at hy;cases h:bI met y<;>simp[h]at hy ⊢) hx (by rw[lX.2 hm];rfl) (by rw[fU];simp);generalize (names.filter fun n=>!bI met n).length=a at *;generalize (names.filter fun n=>!bI (met++[x]) n).length=b at *;have:(b+1)*(U+1)<=a*(U+1):=tA _ h;rw[Nat.succ_mul]at this;simp only[cD,A4];omega
def BG(names met:List ByteArray):Nat:=(names.filter fun n=>!bI met n).length
theorem Bn(names met:List ByteArray)(x:ByteArray)(hx:x∈names)(hm:x ∉ met):BG names (met++[x])<BG names met :=
 kQ (p:=fun n=>!bI met n) (q:=fun n=>!bI (met++[x]) n) (l:=names) (x:=x) (fun y hy=>by rw[fU]at hy;cases h:bI met y<;>simp[h]at hy ⊢) hx (by rw[lX.2 hm];rfl) (by rw[fU];simp)
theorem Ae(names met:List ByteArray):BG names met<=names.length:=tk ..
def oN(met:List ByteArray):Value->Option Value
 |.string s=>if bI met s=true then some (.bool true) else none
 |_=>none
theorem xk(met:List ByteArray)(s:ByteArray):(oN met (.string s)).getD (.bool false)=.bool (bI met s):=by
 show(if bI met s=true then some (Value.bool true) else none).getD (.bool false)=_;cases h:bI met s<;>simp
theorem uH(met:List ByteArray)(x:ByteArray)(key:Value):oN (met++[x]) key=upd (oN met) (.string x) (.bool true) key:=by
 by_cases h:key=.string x
 ·subst h;rw[upd_same];simp[oN,fU]
 rw[bP h];unfold oN;split
 ·rename_i s;have:¬x=s:=fun e=>h Tdt;rw[fU];simp[this]
 rfl
def gD{α:Type}(nm:α->ByteArray)(p:ByteArray->Bool)(l:List α):List ByteArray:=l.foldl (fun out x=>if(p (nm x)&&!bI out (nm x))=true then out++[nm x] else out) []
theorem rJ(nm:α->ByteArray)(p:ByteArray->Bool){l:List α}{k:Nat}{x:α}(h:l[k]?=some x):gD nm p (l.take (k+1))=if(p (nm x)&&!bI (gD nm p (l.take k)) (nm x))=true then gD nm p (l.take k)++[nm x] else gD nm p (l.take k):=by
 rw[take_snoc' l k x h];unfold gD;rw[List.foldl_append];rfl
theorem lq(nm:α->ByteArray)(p:ByteArray->Bool)(l:List α):(gD nm p l).length<=l.length:=by
 have:∀(l:List α) (o:List ByteArray),(l.foldl (fun out x=>if(p (nm x)&&!bI out (nm x))=true then out++[nm x] else out) o).length<=o.length+l.length:=by
  intro l;induction l with
  |nil=>intro o;simp
  |cons x l ih =>
   intro o;rw[cF,cS];refine cA (ih _) ?_;split
   ·rw[cD,A4];omega
   omega
 simpa[gD]using this l []
open Classical in
noncomputable def Fj(F9:List ay)(nm x:ByteArray):Bool:=decide (x=nm\/Reach (dU F9) ((dU F9 nm).getD []) x)
noncomputable def mR(F9:List ay)(nm:ByteArray):List ByteArray:=gD ay.name (Fj F9 nm) F9
def onS(d:ByteArray)(s:aB):Bool:=s.Ga.any fun a=>decide (a.on=d)&&!a.vol
def XZ(F9:List ay)(d x:ByteArray):Bool:=((aM F9 x).getD eY).Gf.any (onS d)
noncomputable def sP(g:af)(nm:ByteArray):List ByteArray:=gD az.name (fun d=>(mR g.F9 nm).any (XZ g.F9 d)) g.Gb
end Go.Proofs.YtillcmhjhajimaaGreatDoor
namespace Go.Proofs.YtillcmhjhajimaaGreatDoor
open Go.Proofs.Tryz
open Go.RowKit Go.Maps Go.Shelf
def XY(a b:ByteArray):Bool:=Op.bytesLess a.toList b.toList
def kV(l:List ByteArray)(i:Nat):Bool:=mr (l.getD i ⟨#[]⟩)&&(decide (i=0)||XY (l.getD (i-1) ⟨#[]⟩) (l.getD i ⟨#[]⟩))
def eP(l:List ByteArray):Int:=if 8<l.length then 4 else if(List.range l.length).all (kV l) then 0 else 2
def TI(l:List ByteArray):Prop:=l.length<=1000000/\∀s∈l,s.size<=9223372036854775807
structure UT(g:af):Prop where
 name:g.name.size<=9223372036854775807
 tags:TI g.tags
 dl:g.Gb.length<=1000000
 vl:g.F9.length<=1000000
 hl:g.history.length<=1000000
 disk:∀d∈g.Gb,d.name.size<=9223372036854775807/\TI d.tags
 vol:∀v∈g.F9,v.name.size<=9223372036854775807/\TI v.tags
 hist:∀h∈g.history,h.1.size<=9223372036854775807
def lL(h:ByteArray × Int × Int):Bool:=jo h.1&&decide (0<=h.2.2/\h.2.2<=1048575)
def lm(g:af):Prop:=0<=g.seq/\g.seq<=1048575/\1<=g.Gd/\g.Gd<=1024/\0<=g.next/\g.next<=1073741824
instance (g:af):Decidable (lm g):=by unfold lm;infer_instance
def iR(g:af):Prop:=g.Gb.length<=8/\g.F9.length<=32/\g.history.length<=32
instance (g:af):Decidable (iR g):=by unfold iR;infer_instance
def qX(g:af):Int :=
 if jo g.name=false then 10 else if ¬lm g then 1 else if ¬iR g then 4 else if eP g.tags≠0 then eP g.tags else if g.history.all lL then 0 else 2
def dZ(g:af):ByteArray × Int:=(⟨#[]⟩,qX g)
theorem b6.take{α:Type}{V:jx α}{sz:Nat}{ok:Nat->Prop}{w:World}{p:Option Addr}{cap:Nat}{l:List α}(h:b6 V sz ok w [.slice p l.length cap] l)(k:Nat)(hk:k<=l.length):b6 V sz ok w [.slice p k cap] (l.take k):=by
 obtain⟨p',c',e,h1,h2,h3⟩:=h;injection e with e;injection e with e1 _ e3;subst e1;subst e3;have hl:(l.take k).length=k:=by simp;omega
 refine⟨p,cap,by rw[hl],TcN,h2,fun h0=>?_⟩;obtain⟨b,off,hp,hb,ho,hc⟩:=h3 TcN;exact⟨b,off,hp,hb,ho,fun i x hx=>hc i x (by
  rw[xF]at hx;split at hx
  ·exact hx
  cases hx)⟩
def dG(d x:az):Bool:=x.name.toList==d.name.toList||x.id==d.id
theorem Ted{p:Prop}(h:p:=by rw[HM.o];rfl):p:=h
theorem vR{ok:Nat->Prop}(x d:az)(u:List Value)(Bd:Nat)(w:World)(hu:aO ok w u x)(h0:w.cell? Bd=some (.string d.name))(h1:w.cell? (Tac Bd 1)=some (.int .u64 d.id))(hb:Bd<w.heap.size) :
  Calls prog 113 #[.agg u.toArray,.pointer (some Bd)] w fun e w'=>e=.returned (.bool (dG d x))/\Below w.heap.size w w':=by
 obtain⟨tv,rfl,ew⟩:=hu;obtain⟨tp,tc,rfl,_,_⟩:=ew.cap;clear ew;have hA:=ae w (.cells (Tah x tp tc) 39);have HA:=aa hA;have HM:Hid (dG d x=_):=aa (dG.eq_1 d x);have d0:=(hA.cell (p:=Bd) hb).trans h0;have d1:=(hA.cell (p:=⟨Bd,1,none⟩) hb).trans h1;clear hA h0 h1;cases hn:x.name.toList==d.name.toList with
 |true =>
  rw[hn]at HM;go_enter func113,ntmps113;go_wp2;go_ret;exact⟨ah Ted,HA.o⟩
 |false =>
  rw[hn]at HM;go_enter func113,ntmps113;go_wp2;go_ret;exact⟨ah Ted,HA.o⟩
theorem TbU{p:Prop}(h:p:=by
 ·obtain rfl:k=l.length:=by omega
  rw[cI]at cE;go_wp2;go_ret;exact⟨⟨-1,rfl,by rw[cE.o];rfl⟩,hB⟩):p:=h
theorem Tej{p:Prop}(h:p:=by rw[take_snoc' l k x hx,rj,cE.o];simp):p:=h
theorem sF{ok:Nat->Prop}(l:List az)(d:az)(p:Option Addr)(cap Bd:Nat)(w:World)(hr:b6 aO 7 ok w [.slice p l.length cap] l)(hl:l.length<=1000000)(h0:w.cell? Bd=some (.string d.name))(h1:w.cell? (Tac Bd 1)=some (.int .u64 d.id))(hb:Bd<w.heap.size) :
  Calls prog 158 #[.slice p l.length cap,.func (.func 113) #[] #[.pointer (some Bd)]] w
   fun e w'=>(∃r:Int,e=.returned (.int .i64 r)/\decide (0<=r)=l.any (dG d))/\Below w.heap.size w w':=by
 obtain⟨p',c',e,hc1,hc2⟩:=hr.cap;injection e with e1 _ e3;subst e1;subst e3;have HR:=aa hr;clear hr;have H0:=aa h0;clear h0;have H1:=aa h1;clear h1;go_enter func158,ntmps158;go_wp2
 go_loopw[8,5] (fun i _ wr=>∃k:Nat,k<=l.length/\i=.int .i64 k/\Below w.heap.size w wr/\(l.take k).any (dG d)=false) (fun i _ _=>l.length-(intOf i).toNat)
 exact⟨0,cg _,rfl,bj _ _,rfl⟩;obtain⟨k,hk,rfl,hB,hall⟩:=hrel;have cE:=aa hall;clear hall;by_cases hlt:k<l.length
 ·obtain⟨x,hx⟩:=aj l k hlt;obtain⟨b,off,us,XG,gR,cX,ez,eE,hcv⟩:=HR.o.elem hx;subst XG;have HV:=aa eE;obtain⟨tv,rfl,ew⟩:=eE;obtain⟨tp,tc,rfl,_,_⟩:=ew.cap;clear ew;have cT:wr.heap[b]?=w.heap[b]?:=hB.block b cX;obtain⟨q0,q1,q2,q3,q4,q5,q6⟩:=OD cT hcv;have ap1:Hid ((l.take (k+1)).any (dG d)=dG d x):=aa Tej;have AE:Hid (dG d x=true->l.any (dG d)=true):=aa fun h=>List.any_eq_true.2 ⟨x,ct hx,h⟩;clear hcv ez cT hx cE;have mA:=hB.size
  go_wp2_with fail;refine(vR (ok:=ok) x d _ Bd wr (aO.moves.mv (Mv.of hB) HV.o) ((hB.cell hb).trans H0.o) ((hB.cell hb).trans H1.o) TcN).mono ?_;rintro e w3 ⟨rfl,hb3⟩;have cJ:=aa (hB.trans (hb3.mono hB.size));clear hb3 q0;cases hs:dG d x with
  |true =>
   have E3:=aa (AE.o hs);clear hs;go_wp2;go_ret;exact⟨⟨k,rfl,by rw[E3.o];simp⟩,cJ.o⟩
  |false =>
   have E3:=aa (ap1.o.trans hs);clear hs;go_wp2;go_roundw;exact⟨k+1,TcN,TcR,cJ.o,E3.o⟩;simp[intOf];omega
 exact TbU
theorem TcH{p:Prop}(h:p:=by
 have HR:=aa hr2;clear hr2;have HB:=aa hb2;clear hb2;go_wp2;go_ret;exact⟨ah HR.o,HB.o⟩):p:=h
theorem TbF{p:Prop}(h:p:=by
 rintro e w2 ⟨⟨r,rfl,hr2⟩,hb2⟩;exact TcH):p:=h
theorem sN{ok:Nat->Prop}(l:List az)(d:az)(p:Option Addr)(cap Bd:Nat)(w:World)(hr:b6 aO 7 ok w [.slice p l.length cap] l)(hl:l.length<=1000000)(h0:w.cell? Bd=some (.string d.name))(h1:w.cell? (Tac Bd 1)=some (.int .u64 d.id))(hb:Bd<w.heap.size) :
  Calls prog 112 #[.slice p l.length cap,.func (.func 113) #[] #[.pointer (some Bd)]] w
   fun e w'=>e=.returned (.bool (l.any (dG d)))/\Below w.heap.size w w':=by
 go_enter func112,ntmps112
 go_wp2_with fail;refine(sF (ok:=ok) l d p cap Bd w hr hl h0 h1 hb).mono ?_;exact TbF
def fC(d x:ay):Bool:=x.name.toList==d.name.toList||x.id==d.id
theorem wh{ok:Nat->Prop}(x d:ay)(u:List Value)(Bd:Nat)(w:World)(hu:aN ok w u x)(h0:w.cell? Bd=some (.string d.name))(h1:w.cell? (Tac Bd 1)=some (.int .u64 d.id))(hb:Bd<w.heap.size) :
  Calls prog 115 #[.agg u.toArray,.pointer (some Bd)] w fun e w'=>e=.returned (.bool (fC d x))/\Below w.heap.size w w':=by
 obtain⟨tv,sv,rfl,ew,fL⟩:=hu;obtain⟨tp,tc,rfl,_,_⟩:=ew.cap;obtain⟨sp,sc,rfl,_,_⟩:=fL.cap;clear ew fL;have hA:=ae w (.cells (Taf x tp tc sp sc) 57);have HA:=aa hA;have HM:Hid (fC d x=_):=aa (fC.eq_1 d x);have d0:=(hA.cell (p:=Bd) hb).trans h0;have d1:=(hA.cell (p:=⟨Bd,1,none⟩) hb).trans h1;clear hA h0 h1;cases hn:x.name.toList==d.name.toList with
 |true =>
  rw[hn]at HM;go_enter func115,ntmps115;go_wp2;go_ret;exact⟨ah Ted,HA.o⟩
 |false =>
  rw[hn]at HM;go_enter func115,ntmps115;go_wp2;go_ret;exact⟨ah Ted,HA.o⟩
theorem uK{ok:Nat->Prop}(l:List ay)(d:ay)(p:Option Addr)(cap Bd:Nat)(w:World)(hr:b6 aN 6 ok w [.slice p l.length cap] l)(hl:l.length<=1000000)(h0:w.cell? Bd=some (.string d.name))(h1:w.cell? (Tac Bd 1)=some (.int .u64 d.id))(hb:Bd<w.heap.size) :
  Calls prog 159 #[.slice p l.length cap,.func (.func 115) #[] #[.pointer (some Bd)]] w
   fun e w'=>(∃r:Int,e=.returned (.int .i64 r)/\decide (0<=r)=l.any (fC d))/\Below w.heap.size w w':=by
 obtain⟨p',c',e,hc1,hc2⟩:=hr.cap;injection e with e1 _ e3;subst e1;subst e3;have HR:=aa hr;clear hr;have H0:=aa h0;clear h0;have H1:=aa h1;clear h1;go_enter func159,ntmps159;go_wp2
 go_loopw[8,5] (fun i _ wr=>∃k:Nat,k<=l.length/\i=.int .i64 k/\Below w.heap.size w wr/\(l.take k).any (fC d)=false) (fun i _ _=>l.length-(intOf i).toNat)
 exact⟨0,cg _,rfl,bj _ _,rfl⟩;obtain⟨k,hk,rfl,hB,hall⟩:=hrel;have cE:=aa hall;clear hall;by_cases hlt:k<l.length
 ·obtain⟨x,hx⟩:=aj l k hlt;obtain⟨b,off,us,XG,gR,cX,ez,eE,hcv⟩:=HR.o.elem hx;subst XG;have HV:=aa eE;obtain⟨tv,sv,rfl,ew,fL⟩:=eE;obtain⟨tp,tc,rfl,_,_⟩:=ew.cap;obtain⟨sp,sc,rfl,_,_⟩:=fL.cap;clear ew fL;have cT:wr.heap[b]?=w.heap[b]?:=hB.block b cX;obtain⟨q0,q1,q2,q3,q4,q5⟩:=NG cT hcv;have ap1:Hid ((l.take (k+1)).any (fC d)=fC d x):=aa Tej;have AE:Hid (fC d x=true->l.any (fC d)=true):=aa fun h=>List.any_eq_true.2 ⟨x,ct hx,h⟩;clear hcv ez cT hx cE;have mA:=hB.size
  go_wp2_with fail;refine(wh (ok:=ok) x d _ Bd wr (aN.moves.mv (Mv.of hB) HV.o) ((hB.cell hb).trans H0.o) ((hB.cell hb).trans H1.o) TcN).mono ?_;rintro e w3 ⟨rfl,hb3⟩;have cJ:=aa (hB.trans (hb3.mono hB.size));clear hb3 q0;cases hs:fC d x with
  |true =>
   have E3:=aa (AE.o hs);clear hs;go_wp2;go_ret;exact⟨⟨k,rfl,by rw[E3.o];simp⟩,cJ.o⟩
  |false =>
   have E3:=aa (ap1.o.trans hs);clear hs;go_wp2;go_roundw;exact⟨k+1,TcN,TcR,cJ.o,E3.o⟩;simp[intOf];omega
 exact TbU
theorem vH{ok:Nat->Prop}(l:List ay)(d:ay)(p:Option Addr)(cap Bd:Nat)(w:World)(hr:b6 aN 6 ok w [.slice p l.length cap] l)(hl:l.length<=1000000)(h0:w.cell? Bd=some (.string d.name))(h1:w.cell? (Tac Bd 1)=some (.int .u64 d.id))(hb:Bd<w.heap.size) :
  Calls prog 114 #[.slice p l.length cap,.func (.func 115) #[] #[.pointer (some Bd)]] w
   fun e w'=>e=.returned (.bool (l.any (fC d)))/\Below w.heap.size w w':=by
 go_enter func114,ntmps114
 go_wp2_with fail;refine(uK (ok:=ok) l d p cap Bd w hr hl h0 h1 hb).mono ?_;exact TbF
def gZ{α:Type}(nm:α->ByteArray)(f:Nat->α->Int):Nat->List α->ByteArray × Int
 |_,[]=>(⟨#[]⟩,0)
 |i,x :: r=>if f i x=0 then gZ nm f (i+1) r else(nm x,f i x)
def jQ(g:af)(d:az):Prop:=0<=d.first/\d.first<=65536/\0<=d.Gc/\d.Gc<=4096/\d.first+d.Gc*g.Gd<=65536
instance (g:af) (d:az):Decidable (jQ g d):=by unfold jQ;infer_instance
def pg(g:af)(i:Nat)(d:az):Int:=if jo d.name=false then 10 else if(g.Gb.take i).any (dG d)=true then 9 else if ¬jQ g d then 1 else eP d.tags
def dw(g:af):ByteArray × Int:=gZ az.name (pg g) 0 g.Gb
def nE(v:ay):Bool:=if v.hidden then zH v.name else jo v.name
def yH(g:af)(i:Nat)(v:ay):Int:=if nE v=false then 10 else if(g.F9.take i).any (fC v)=true then 9 else if ¬(1<=v.Gf.length/\v.Gf.length<=64) then 4 else eP v.tags
def dJ(g:af):ByteArray × Int:=gZ ay.name (yH g) 0 g.F9
def dO(g:af)(nm:ByteArray):Int:=C8 ((aM g.F9 nm).getD eY)
theorem Eh:qD eY:=⟨by simp[eY],by simp[eY],by simp[eY]⟩
theorem Dt{g:af}(hz:JT g)(nm:ByteArray):qD ((aM g.F9 nm).getD eY):=by
 cases h:aM g.F9 nm with
 |none=>exact Eh
 |some v=>exact hz.vz v (eV h)
theorem yC{ok:Nat->Prop}(g:af)(a:bN)(bc Bc:Nat)(nm:ByteArray)(w:World)(kB:gY w bc g a)(hcc:w.cell? Bc=some (.pointer (some bc)))(hg:dN ok w g a)(hz:JT g) :
  Calls prog 124 #[.string nm,.pointer (some Bc)] w fun e w'=>e=.returned (.int .i64 (dO g nm))/\Below w.heap.size w w':=by
 have jt:=kB.lt;obtain⟨sm,hblk,_⟩:=kB;have nw:Hid (bX w bc sm g a):=aa hblk;clear hblk;obtain⟨g0,g1,g2,g3,g4,g5,g6,g7,g8⟩:=bX.cells nw.o;have HG:=aa hg;clear hg;have HZ:=aa hz;clear hz;have hvz:=Dt HZ.o nm;have GF:=hvz.Gf;have HL:Hid (dO g nm=_):=aa (dO.eq_1 g nm);go_enter func124,ntmps124
 go_wp2_with fail;refine(fA (ok:=ok) g a nm w HG.o.F9 HZ.o.vl HZ.o.vz).mono ?_;rintro e w2 ⟨u,rfl,sA,hb2⟩;generalize (aM g.F9 nm).isSome=is at *;generalize (aM g.F9 nm).getD eY=x at *;have HV:=aa sA;have cm:=aa hb2;obtain⟨tv,sv,rfl,ew,fL⟩:=sA;obtain⟨tp,tc,rfl,_,_⟩:=ew.cap;obtain⟨sp,sc,rfl,_,_⟩:=fL.cap;clear ew fL hb2 g0 g1 g2 g3 g4 g5 g6 g7 g8 hcc;have hA:=ae w2 (.cells (Taf x tp tc sp sc) 57);have cJ:=Zbl cm hA;have Ya:=aa (aN.moves.mv (Mv.of hA) HV.o);have hBx:=b9 w2 (.cells (Taf x tp tc sp sc) 57);have xL:=cr hBx;obtain⟨x0,x1,x2,x3,x4,x5⟩:=sv6 xL;clear hA hBx xL;go_wp2_with fail;refine(yz (ok:=fun b=>ok b\/w.heap.size<=b) x _ _ Ya.o TcN).mono ?_;rintro e w4 ⟨rfl,hb4⟩;have eI:=Zbl cJ hb4;clear hb4 x0 x1 x2 x3 x4 x5;go_wp2;go_ret;exact⟨cz HL.o.symm,eI.o⟩
def MJ(s:aB)(i:Nat):ByteArray:=((s.Ga[i]?).getD ⟨false,⟨#[]⟩,0⟩).on
def BZ(g:af)(s:aB):Int:=(s.length*g.Gd+s.chunk-1)/s.chunk
def Fe(g:af)(s:aB):Bool:=s.log.toList.isEmpty||decide (1+(BZ g s+64-1)/64<=dO g s.log*g.Gd)
def ER(g:af)(s:aB):Bool:=decide (s.length/((s.Ga.length:Int)-1)*g.Gd+16<=dO g (MJ s 0)*g.Gd)
def CX(g:af)(s:aB):Bool :=
 if s.kind=3 then s.Ga.all (fun a=>dO g a.on==s.length)&&Fe g s
 else if s.kind=4 then s.Ga.all (fun a=>dO g a.on==dO g (MJ s 0))&&ER g s
 else if s.kind=5 then dO g (MJ s 1)==s.length
 else if s.kind=7 then dO g (MJ s 0)==s.length else true
def xh(g:af)(s:aB):Int:=if CX g s then 0 else 3
structure Ah(s:aB):Prop where
 fm:wM s
 c3:s.kind=3->1<=s.chunk/\s.chunk<=1024
 a4:s.kind=4->3<=s.Ga.length
def Cu(g:af):Prop:=∀nm,0<=dO g nm/\dO g nm<=10000000
theorem tN(n d:Int)(w:World)(h0:0<=n)(h1:n<=1000000000000)(h2:1<=d)(h3:d<=1000000) :
  Calls prog 127 #[.int .i64 n,.int .i64 d] w fun e w'=>e=.returned (.int .i64 ((n+d-1)/d))/\Below w.heap.size w w' :=
 (CV n d w h0 h1 h2 h3).mono fun _ _ ⟨h,e⟩=>⟨h,e ▸ bj _ _⟩
def qG(g:af):ByteArray × Int:=bD (fun _ _ s=>xh g s) [] (aA g.F9)
def Jd(w:World)(b off:Nat)(l:List Bool):Prop:=∀(i:Nat) (x:Bool),l[i]?=some x->w.cell? (b,off+i)=some (.bool x)
theorem sJ(l:List Bool)(b off cap:Nat)(w:World)(h:Jd w b off l)(hb:b<w.heap.size)(hl:l.length<=1000000) :
  Calls prog 168 #[.slice (some (b,off)) l.length cap,.bool true] w fun e w'=>(∃r:Int,e=.returned (.int .i64 r)/\decide (0<=r)=l.any id)/\Below w.heap.size w w':=by
 have HH:=aa h;clear h;go_enter func168,ntmps168;go_wp2
 go_loopw[8,5] (fun i _ wr=>∃k:Nat,k<=l.length/\i=.int .i64 k/\Below w.heap.size w wr/\(l.take k).any id=false) (fun i _ _=>l.length-(intOf i).toNat)
 exact⟨0,cg _,rfl,bj _ _,rfl⟩;obtain⟨k,hk,rfl,hB,hall⟩:=hrel;have cE:=aa hall;clear hall;by_cases hlt:k<l.length
 ·obtain⟨x,hx⟩:=aj l k hlt;have q0:=(hB.cell (p:=⟨b,off+k,none⟩) hb).trans (HH.o k x hx);have ap1:Hid ((l.take (k+1)).any id=x):=aa Tej;have AE:Hid (x=true->l.any id=true):=aa fun h=>List.any_eq_true.2 ⟨x,ct hx,h⟩;clear hx cE;cases x with
  |true =>
   have E3:=aa (AE.o rfl);go_wp2;go_ret;exact⟨⟨k,rfl,by rw[E3.o];simp⟩,hB⟩
  |false =>
   have E3:=aa ap1.o;go_wp2;go_roundw;exact⟨k+1,TcN,TcR,hB,E3.o⟩;simp[intOf];omega
 exact TbU
theorem oC(l:List Bool)(b off cap:Nat)(w:World)(h:Jd w b off l)(hb:b<w.heap.size)(hl:l.length<=1000000) :
  Calls prog 129 #[.slice (some (b,off)) l.length cap,.bool true] w fun e w'=>e=.returned (.bool (l.any id))/\Below w.heap.size w w':=by
 go_enter func129,ntmps129
 go_wp2_with fail;refine(sJ l b off cap w h hb hl).mono ?_;exact TbF
section
open Go Go.Maps Go.MapKept Go.ChangeMaps
variable {P:Program}{k:TypeId}{w w':World}{b n:Nat}{f:Value->Option Value}
end
attribute [local go_sem] run_makeMap_plain
theorem zq(w:World) :
  Calls prog 70 #[] w fun e w'=>∃b,e=.returned (.map (some b))/\bi prog 3 w' b 10 eH/\Below w.heap.size w w':=by
 go_enter func70,ntmps70;have h0:=bi.made prog 3 w;obtain⟨w1,r1,h1,g1,z1⟩:=h0.store pF underlying118 TcQ (lA (a:=1) underlying3 TcQ) (.agg #[.int .i64 1,.int .i64 1,.bool false,.bool true,.int .i64 0,.bool false,.bool false,.bool false,.bool false,.bool false]);obtain⟨w2,r2,h2,g2,z2⟩:=h1.store pF underlying118 TcQ (lA (a:=2) underlying3 TcQ) (.agg #[.int .i64 2,.int .i64 6,.bool false,.bool true,.int .i64 1,.bool false,.bool false,.bool false,.bool false,.bool false]);obtain⟨w3,r3,h3,g3,z3⟩:=h2.store pF underlying118 TcQ (lA (a:=3) underlying3 TcQ) (.agg #[.int .i64 2,.int .i64 6,.bool true,.bool false,.int .i64 1024,.bool true,.bool false,.bool true,.bool false,.bool false]);obtain⟨w4,r4,h4,g4,z4⟩:=h3.store pF underlying118 TcQ (lA (a:=4) underlying3 TcQ) (.agg #[.int .i64 3,.int .i64 6,.bool true,.bool false,.int .i64 1,.bool true,.bool false,.bool false,.bool false,.bool false]);obtain⟨w5,r5,h5,g5,z5⟩:=h4.store pF underlying118 TcQ (lA (a:=5) underlying3 TcQ) (.agg #[.int .i64 2,.int .i64 2,.bool true,.bool false,.int .i64 64,.bool false,.bool false,.bool false,.bool false,.bool false]);obtain⟨w6,r6,h6,g6,z6⟩:=h5.store pF underlying118 TcQ (lA (a:=6) underlying3 TcQ) (.agg #[.int .i64 0,.int .i64 0,.bool false,.bool false,.int .i64 0,.bool false,.bool true,.bool false,.bool false,.bool false]);obtain⟨w7,r7,h7,g7,z7⟩:=h6.store pF underlying118 TcQ (lA (a:=7) underlying3 TcQ) (.agg #[.int .i64 3,.int .i64 3,.bool true,.bool false,.int .i64 64,.bool false,.bool false,.bool false,.bool true,.bool false]);obtain⟨w8,r8,h8,g8,z8⟩:=h7.store pF underlying118 TcQ (lA (a:=8) underlying3 TcQ) (.agg #[.int .i64 2,.int .i64 2,.bool false,.bool true,.int .i64 0,.bool false,.bool false,.bool false,.bool false,.bool true]);obtain⟨w9,r9,h9,g9,z9⟩:=h8.store pF underlying118 TcQ (lA (a:=9) underlying3 TcQ) (.agg #[.int .i64 0,.int .i64 0,.bool false,.bool true,.int .i64 0,.bool false,.bool false,.bool false,.bool false,.bool false]);obtain⟨w10,r10,h10,g10,z10⟩:=h9.store pF underlying118 TcQ (lA (a:=10) underlying3 TcQ) (.agg #[.int .i64 0,.int .i64 0,.bool false,.bool true,.int .i64 0,.bool false,.bool false,.bool false,.bool false,.bool false]);have hB0:Below w.heap.size w (w.alloc (.map #[] 0)):=ae w _;go_wp2;go_ret;refine⟨w.heap.size,rfl,h10.congr ?_,?_⟩
 ·intro key kl hk;clear hk;by_cases e10:key=.int .i64 10
  ·subst e10;rw[upd_same];rfl
  rw[bP e10];by_cases e9:key=.int .i64 9
  ·subst e9;rw[upd_same];rfl
  rw[bP e9];by_cases e8:key=.int .i64 8
  ·subst e8;rw[upd_same];rfl
  rw[bP e8];by_cases e7:key=.int .i64 7
  ·subst e7;rw[upd_same];rfl
  rw[bP e7];by_cases e6:key=.int .i64 6
  ·subst e6;rw[upd_same];rfl
  rw[bP e6];by_cases e5:key=.int .i64 5
  ·subst e5;rw[upd_same];rfl
  rw[bP e5];by_cases e4:key=.int .i64 4
  ·subst e4;rw[upd_same];rfl
  rw[bP e4];by_cases e3:key=.int .i64 3
  ·subst e3;rw[upd_same];rfl
  rw[bP e3];by_cases e2:key=.int .i64 2
  ·subst e2;rw[upd_same];rfl
  rw[bP e2];by_cases e1:key=.int .i64 1
  ·subst e1;rw[upd_same];rfl
  rw[bP e1];unfold eH;split
  ·rename_i q;have f1:¬q=1:=fun h=>e1 Tc8;have f2:¬q=2:=fun h=>e2 Tc8;have f3:¬q=3:=fun h=>e3 Tc8;have f4:¬q=4:=fun h=>e4 Tc8;have f5:¬q=5:=fun h=>e5 Tc8;have f6:¬q=6:=fun h=>e6 Tc8;have f7:¬q=7:=fun h=>e7 Tc8;have f8:¬q=8:=fun h=>e8 Tc8;have f9:¬q=9:=fun h=>e9 Tc8;have f10:¬q=10:=fun h=>e10 Tc8;rw[shapeOf,bh f1,bh f2,bh f3,bh f4,bh f5,bh f6,bh f7,bh f8,bh f9,bh f10];rfl
  rfl
 have st:∀W W':World,Below w.heap.size w W->W.grownBy W' (some w.heap.size)->Below w.heap.size w W':=fun W W' hb hg =>
  ⟨hg.os.trans hb.os,hg.tape.trans hb.tape,hg.output.trans hb.output,cA hb.size hg.size,fun k hk=>(hg.block k (cC hk hb.size) (by intro h;injection h with h;omega)).trans (hb.block k hk)⟩
 exact(st _ _ (st _ _ (st _ _ (st _ _ (st _ _ (st _ _ (st _ _ (st _ _ (st _ _ (st _ _ hB0 g1) g2) g3) g4) g5) g6) g7) g8) g9) g10)
end Go.Proofs.YtillcmhjhajimaaGreatDoor
namespace Go.Proofs.YtillcmhjhajimaaGreatDoor
open Go.Proofs.Tryz
open Go.RowKit Go.Maps Go.Shelf
variable {w:World}{b:Nat}{l:List ByteArray}{L:List (az × Nat)}{M:List (ByteArray × Int × Int)}{d:az}
def iJ(l:List ByteArray)(nm:ByteArray):Nat:=l.countP fun x=>decide (x=nm)
def cntF(l:List ByteArray):Value->Option Value
 |.string s=>if iJ l s=0 then none else some (.int .i64 (iJ l s))
 |_=>none
theorem Dy(l:List ByteArray)(s:ByteArray):(cntF l (.string s)).getD (.int .i64 0)=.int .i64 (iJ l s):=by
 show(if iJ l s=0 then none else some (Value.int .i64 (iJ l s))).getD (.int .i64 0)=_;by_cases h:iJ l s=0
 ·rw[aw h,h];rfl
 rw[bh h];rfl
theorem sV(l:List ByteArray)(x nm:ByteArray):iJ (l++[x]) nm=iJ l nm+if x=nm then 1 else 0:=by
 unfold iJ;rw[List.countP_append];by_cases h:x=nm<;>simp[h]
theorem Bw(l:List ByteArray)(x:ByteArray)(key:Value):cntF (l++[x]) key=upd (cntF l) (.string x) (.int .i64 ((iJ l x:Int)+1)) key:=by
 by_cases h:key=.string x
 ·subst h;rw[upd_same];simp[cntF,sV]
 rw[bP h];unfold cntF;split
 ·rename_i s;have:¬x=s:=fun e=>h Tdt;rw[sV,bh this];rfl
 rfl
def EJ(g:af)(pool:Bool):List ByteArray:=(aA g.F9).flatMap fun p=>dD p.2 pool
def yt(g:af)(v:ay):Int:=if v.hidden then(if iJ (EJ g true) v.name=1 then 0 else 16) else(if iJ (EJ g false) v.name=0 then 0 else 16)
def rY(g:af):ByteArray × Int:=iM (yt g) g.F9
theorem oM:Keyed prog 9:=string_keyed underlying9
theorem gG(s:ByteArray)(h:s.size<=maxLen):keyOf prog 9 (.string s)=some (.string s.data.toList):=by
 simp[keyOf,underlying9,mapKey,h]
theorem Fx(w:World):(zeroValue 3).run prog w=.ok (.int .i64 0) w:=by kernel_rfl
def dA(l:List (ay × aB))(pool:Bool):List ByteArray:=l.flatMap fun p=>dD p.2 pool
theorem qW(l:List (ay × aB))(v:ay)(s:aB)(pool:Bool):dA (l++[(v,s)]) pool=dA l pool++dD s pool:=by simp[dA]
def gm(w:World)(b:Nat)(l:List ByteArray):Prop:=bi prog 9 w b l.length (cntF l)
theorem gm.look(h:gm w b l)(s:ByteArray)(hs:s.size<=maxLen):(Instr.lookup 176 (.map (some b)) (.string s) false).run prog w=.ok (.int .i64 (iJ l s)) w:=by
 have:=(bi.look h oM underlying176 (Fx w) (key:=.string s) (gG s hs)).1;rwa[Dy]at this
theorem gm.store(h:gm w b l)(hl:l.length<=1000000)(s:ByteArray)(hs:s.size<=maxLen) :
  ∃w',(Instr.mapUpdate 176 (.map (some b)) (.string s) (.int .i64 ((iJ l s:Int)+1))).run prog w=.ok () w'/\gm w' b (l++[s])/\w.grownBy w' (some b)/\w'.heap.size=w.heap.size:=by
 obtain⟨w',r,m,g,z⟩:=bi.store h oM underlying176 (rr hl TcQ) (key:=.string s) (gG s hs) (.int .i64 ((iJ l s:Int)+1));refine⟨w',r,?_,g,z⟩;unfold gm;rw[cD];exact m.congr fun key kl _=>Bw l s key
def kK(W:World)(L:List (az × Nat))(M:List (ByteArray × Int × Int)):Prop:=∀p∈L,W.heap[p.2]?=some (.cells ((bz M p.1).map Value.bool).toArray 4 (0,0))
structure uF(ok:Nat->Prop)(W:World)(L:List (az × Nat))(bm:Nat):Prop where
 map:bi prog 9 W bm L.length (vG L)
 nb:(L.map (·.2)).Nodup
 nn:(L.map (·.1.name)).Nodup
 lt:∀p∈L,p.2<W.heap.size/\¬ok p.2/\p.2≠bm
 de:∀p∈L,0<=p.1.Gc/\p.1.Gc<=1000000
def Gm(L:List (az × Nat)):Nat->Prop:=fun b=>∃p∈L,p.2=b
theorem ut{α β:Type}{f:α->β}{l:List α}(h:(l.map f).Nodup){x y:α}(hx:x∈l)(hy:y∈l)(e:f x=f y):x=y:=by
 induction l with
 |nil=>cases hx
 |cons a l ih =>
  rw[iu,List.nodup_cons]at h;rcases List.mem_cons.1 hx with hx2|hx2<;>rcases List.mem_cons.1 hy with hy2|hy2
  ·rw[hx2,hy2]
  ·exact absurd (by rw[<- hx2,e];exact List.mem_map_of_mem hy2) h.1
  ·exact absurd (by rw[<- hy2,<- e];exact List.mem_map_of_mem hx2) h.1
  exact ih h.2 hx2 hy2
theorem kK.below{w':World}(h:kK w L M)(hb:Below w.heap.size w w'):kK w' L M:=fun p hp=>(hb.block p.2 (aq (h p hp))).trans (h p hp)
theorem kK.bools(h:kK w L M)(hp:(d,b)∈L)(st n:Nat):Jd w b st (((bz M d).drop st).take n):=fun i x hx=>by
 have hb:=h _ hp;dsimp only at hb;rw[xF]at hx;split at hx
 ·rw[pk]at hx;simp only[World.cell?,hb];simpa using hx
 cases hx
theorem kK.zero(h:kK w L M)(nm:ByteArray)(st:Int):kK w L (M++[(nm,st,0)]):=fun p hp=>by
 rw[vQ];exact h p hp
theorem kK.set{st:Int}{j:Nat}(h:kK w L (M++[(d.name,st,(j:Int))]))(hb:(L.map (·.2)).Nodup)(hn:(L.map (·.1.name)).Nodup)(hp:(d,b)∈L)(h0:0<=st) :
  kK (w.setCell (b,st.toNat+j) (.bool true)) L (M++[(d.name,st,((j+1:Nat):Int))]):=fun p VM=>by
 by_cases e:p.2=b
 ·obtain rfl:p=(d,b):=ut hb VM hp e;have:=block_setCell (i:=st.toNat+j) (.bool true) (h _ hp);rw[this,xT,<- List.map_set,xH M d st j h0]
 rw[bw _ _ _ _ e,h p VM];have hne:¬d.name=p.1.name:=fun q=>e (by rw[ut hn VM hp q.symm]);rw[lQ M p.1 _ hne,lQ M p.1 _ hne]
theorem E8(w:World):(zeroValue 171).run prog w=.ok (.slice none 0 0) w:=by kernel_rfl
theorem laidB:laidOutB prog=true:=by kernel_rfl
theorem DY:(175:TypeId)<prog.types.size:=of_decide_eq_true TcP
theorem EW:prog.keyTypeAt 2 175=true:=by kernel_rfl
theorem Em:WideMaps.KeyLaw prog 175:=deep_law_laid laidB (m:=2) TcN DY EW (by rw[underlying175])
theorem EI:Keyed prog 175:=Keyed.of_law Em
theorem TeE{p:Prop}(h:p:=by have:0<prog.types.size:=of_decide_eq_true (by kernel_rfl);omega):p:=h
theorem EZ:prog.keyType 175=true:=by
 obtain⟨n,hn⟩:∃n,prog.types.size=n+1:=⟨prog.types.size-1,TeE⟩;have hc:prog.cutTypes.any (·.2==175)=false:=by kernel_rfl
 have hs:prog.stoodInHeld 175=false:=by kernel_rfl
 unfold Program.keyType;rw[hn];simp[Program.keyTypeAt,underlying175,underlying9,underlying3,hc,hs]
theorem DX(p:ByteArray)(d:Int)(hp:p.size<=maxLen)(hd:(Lit.int .i64 d).wf=true):∃kl,keyOf prog 175 (.agg #[.string p,.int .i64 d])=some kl:=by
 obtain⟨n,hn⟩:∃n,prog.types.size=n+1:=⟨prog.types.size-1,TeE⟩;have hf:(Value.agg #[.string p,.int .i64 d]).formed prog 175=true:=by simp[Value.formed,underlying175,show prog.cellsOf 175=2 by kernel_rfl]
 have e1:prog.cellsOf 9=1:=by kernel_rfl
 have e2:prog.cellsOf 3=1:=by kernel_rfl
 have e3:prog.cellsOf 175=2:=by kernel_rfl
 have hl:prog.keyLits (n+1+1) 175 [.string p,.int .i64 d]=some [.string p.data.toList,.int .i64 d]:=by
  simp[Program.keyLits,underlying175,underlying9,underlying3,e1,e2,e3,hp,hd]
 refine⟨.string (keyBytes [.string p.data.toList,.int .i64 d]),?_⟩;unfold keyOf;rw[underlying175];simp only[];rw[EZ,hf,hn];simp only[Bool.and_self,ej];rw[show(Value.agg #[.string p,.int .i64 d]).cells.toList=[.string p,.int .i64 d] from rfl,hl];rfl
theorem wY(w:World):(zeroValue 4).run prog w=.ok (.bool false) w:=by kernel_rfl
open Classical in
noncomputable def iV(pre:List (ay × aB))(key:Value):Option Value:=if ∃q∈pre,q.2.kind=6/\key=.agg #[.string q.2.pool,.int .i64 q.2.device] then some (.bool true) else none
def pY(pre:List (ay × aB))(s:aB):Bool:=pre.any fun p=>decide (p.2.kind=6)&&(decide (p.2.pool=s.pool)&&decide (p.2.device=s.device))
theorem AZ(pre:List (ay × aB))(s:aB):(iV pre (.agg #[.string s.pool,.int .i64 s.device])).getD (.bool false)=.bool (pY pre s):=by
 unfold iV;by_cases h:pY pre s=true
 ·rw[h,aw]
  ·rfl
  obtain⟨q,hq,e⟩:=List.any_eq_true.1 h;simp only[eh,fk]at e;exact⟨q,hq,e.1,by rw[e.2.1,e.2.2]⟩
 rw[bh]
 ·rw[Bool.eq_false_iff.2 h];rfl
 rintro⟨q,hq,e,k⟩;simp only[Value.agg.injEq,Array.mk.injEq,rp,Value.string.injEq,Value.int.injEq,and_true,true_and]at k;exact h (List.any_eq_true.2 ⟨q,hq,by simp[e,k.1,k.2]⟩)
theorem yU(pre:List (ay × aB))(v:ay)(s:aB)(h:s.kind=6)(key:Value):iV (pre++[(v,s)]) key=upd (iV pre) (.agg #[.string s.pool,.int .i64 s.device]) (.bool true) key:=by
 by_cases hk:key=.agg #[.string s.pool,.int .i64 s.device]
 ·subst hk;rw[upd_same];unfold iV;rw[aw ⟨(v,s),TcO,h,rfl⟩]
 rw[bP hk];unfold iV;congr 1
 refine propext ⟨?_,?_⟩
 ·rintro⟨q,hq,e,k⟩;rcases List.mem_append.1 hq with hq|hq
  ·exact⟨q,hq,e,k⟩
  obtain rfl:=List.mem_singleton.1 hq;exact absurd k hk
 rintro⟨q,hq,e,k⟩;exact⟨q,ju _ hq,e,k⟩
theorem yN(pre:List (ay × aB))(v:ay)(s:aB)(h:¬s.kind=6)(key:Value):iV (pre++[(v,s)]) key=iV pre key:=by
 unfold iV;congr 1
 refine propext ⟨?_,?_⟩
 ·rintro⟨q,hq,e,k⟩;rcases List.mem_append.1 hq with hq|hq
  ·exact⟨q,hq,e,k⟩
  obtain rfl:=List.mem_singleton.1 hq;exact absurd e h
 rintro⟨q,hq,e,k⟩;exact⟨q,ju _ hq,e,k⟩
end Go.Proofs.YtillcmhjhajimaaGreatDoor
