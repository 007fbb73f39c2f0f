/- Lemmas: MkSb, MkSc. -/
import Derived.Test.YtjdfihglehfelaaGreatDoorPf43
import Derived.Test.YtjdfihglehfelaaGreatDoorPf39
set_option maxRecDepth 100000
set_option maxHeartbeats 32000000
set_option linter.all false
namespace Go.Proofs.YtjdfihglehfelaaGreatDoor
open Go.Proofs.Tryz
open Go.RowKit
theorem yj {bs bb:Nat}{id seq ext:Int}{tags:List ByteArray}{w0 w:World}{tv dv nv:Value}{Gb:List az}{next:List Int}(D0:vy bs bb id seq ext tags w0 tv dv nv Gb next w)(hn:next.length<=100)
  (c0 c1 c2 c4 c5 c6 c7 c8 c9 c10 c11 c12 c13 c14 c15 c16 c17 c18 c19 c20 c21 c22 c23 c24 c25 c26 c27 c28 c29 c30 c31 c32 c33 c34 c35 c36 c37 c38 c39 c40 c41 c42 c43 c44 c45 c46 c47 c48 c49 c50 c51 c52 c53 c54 c55 c56 c57 c58 c59 c60 c61 c62 c63 c64 c65 c66 c67 c68 c69 c70 c71 c72 c73 c74 c75 c76 c77 c78 c79 c80 c81 c82 c83 c84 c85 c86 c87 c88 c89 c90 c91 c92 c93 c94 c95 c96 c97 c98 c99 c100 c101 c102 c103 c104 c105 c106 c107 c108 c109 c110 c111 c112 c113 c114 c115 c116 c117 c118 c119 c120 c121 c122 c123 c124 c125 c126 c127 c128 c129 c130 c131 c132 c133 c134 c135 c136 c137 c138 c139 c140 c141 c142 c143 c144 c145 c146 c147 c148 c149 c150 c151 c152 c153 c154 c155 c156 c157 c158 c159 c160 c161 c162 c163 c164 c165 c166 c167 c168 c169 c170 c171 c172 c173 c174 c175 c176 c177 c178 c179 c180 c181:Value) (Q:Exit->Act->World->Prop)
  (HK:Hid (∀ (IU:Value) (w':World) (u76 u77 u78 u79 u80 u81 u82 u83 u84:Value),vy bs bb id seq ext tags w0 tv dv IU Gb (next++[0]) w'->Q .normal ⟨#[c0,c1,c2,.pointer (some ⟨bb,0,none⟩),c4,c5,c6,c7,c8,c9,c10,c11,c12,c13,c14,c15,c16,c17,c18,c19,c20,c21,c22,c23,c24,c25,c26,c27,c28,c29,c30,c31,c32,c33,c34,c35,c36,c37,c38,c39,c40,c41,c42,c43,c44,c45,c46,c47,c48,c49,c50,c51,c52,c53,c54,c55,c56,c57,c58,c59,c60,c61,c62,c63,c64,c65,c66,c67,c68,c69,c70,c71,c72,c73,c74,c75,u76,u77,u78,u79,u80,u81,u82,u83,u84,c85,c86,c87,c88,c89,c90,c91,c92,c93,c94,c95,c96,c97,c98,c99,c100,c101,c102,c103,c104,c105,c106,c107,c108,c109,c110,c111,c112,c113,c114,c115,c116,c117,c118,c119,c120,c121,c122,c123,c124,c125,c126,c127,c128,c129,c130,c131,c132,c133,c134,c135,c136,c137,c138,c139,c140,c141,c142,c143,c144,c145,c146,c147,c148,c149,c150,c151,c152,c153,c154,c155,c156,c157,c158,c159,c160,c161,c162,c163,c164,c165,c166,c167,c168,c169,c170,c171,c172,c173,c174,c175,c176,c177,c178,c179,c180,c181],[]⟩ w')) :
  Code.wp prog (nA 9) Q ⟨#[c0,c1,c2,.pointer (some ⟨bb,0,none⟩),c4,c5,c6,c7,c8,c9,c10,c11,c12,c13,c14,c15,c16,c17,c18,c19,c20,c21,c22,c23,c24,c25,c26,c27,c28,c29,c30,c31,c32,c33,c34,c35,c36,c37,c38,c39,c40,c41,c42,c43,c44,c45,c46,c47,c48,c49,c50,c51,c52,c53,c54,c55,c56,c57,c58,c59,c60,c61,c62,c63,c64,c65,c66,c67,c68,c69,c70,c71,c72,c73,c74,c75,c76,c77,c78,c79,c80,c81,c82,c83,c84,c85,c86,c87,c88,c89,c90,c91,c92,c93,c94,c95,c96,c97,c98,c99,c100,c101,c102,c103,c104,c105,c106,c107,c108,c109,c110,c111,c112,c113,c114,c115,c116,c117,c118,c119,c120,c121,c122,c123,c124,c125,c126,c127,c128,c129,c130,c131,c132,c133,c134,c135,c136,c137,c138,c139,c140,c141,c142,c143,c144,c145,c146,c147,c148,c149,c150,c151,c152,c153,c154,c155,c156,c157,c158,c159,c160,c161,c162,c163,c164,c165,c166,c167,c168,c169,c170,c171,c172,c173,c174,c175,c176,c177,c178,c179,c180,c181],[]⟩ w:=by
 conv=>arg 2;whnf
 have hlt:=D0.lt;have cX:=D0.Gj;have hc:=cr D0.blk 10 _ rfl
 have D1:=D0.below (ae w (.cells #[.int .i64 0] 3));have OS:bb<(w.alloc (.cells #[.int .i64 0] 3)).heap.size:=D1.Gj;obtain ⟨i0,hi,hz0,hz1,hz2⟩:=ei tZ;have HI:=aa hi;clear hi;have H0:=aa hz0;clear hz0;have H1:=aa hz1;clear hz1;have H2:=aa hz2;clear hz2;have HD1:=aa D1;clear D1
 go_wp2_with (at_builtin;refine dX cO.moves underlying22 HI.o H0.o H1.o H2.o rfl (by decide) (by decide) rfl _ _ rfl (bb+1) (fun _=>False) nv next 0 rfl ?d1 w.heap.size 1 [.int .i64 0] rfl rfl ?d2 ?d3 ?d4 ?d5 ?d6 ?d7 ?_)
 case d1=>exact HD1.o.ownN.ownS _
 case d2=>exact rfl
 case d3=>simp [Value.oneCell']
 all_goals first | (case d4=>(intro j y hy;exact aD rfl (by simpa using hy))) | (case d5=>omega) | (case d6=>omega) | (case d7=>exact fun _ _ f=>f) | skip
 intro gb cap w3 hp;obtain ⟨D3,hx⟩:=HD1.o.pushN hp;have y7:w3.cell? ⟨bb,10,none⟩=some nv:=by simp [World.cell?,hx,HD1.o.blk]
 have yf:w3.frozen? ⟨bb,10,none⟩=false:=by simp [World.frozen?,hx,HD1.o.blk]
 clear hp hx hc;go_wp2;exact HK.o _ _ _ _ _ _ _ _ _ _ _ D3
theorem vy.bld {bs bb:Nat}{id seq ext:Int}{tags:List ByteArray}{w0 w:World}{tv dv nv:Value}{Gb:List az}{next:List Int}(h:vy bs bb id seq ext tags w0 tv dv nv Gb next w) :
  eW (fun _=>False) w bs bb nv (.slice none 0 0) ⟨KX,id,seq,ext,0,tags,Gb,[],[]⟩ next:=by
 have gw:∀ b,okD bb dv nv b->okB (fun _=>False) bb nv (.slice none 0 0) b:=fun b q=>⟨q.1,q.2.2,fun e=>(by cases e),fun f=>f⟩
 refine ⟨h.src,h.lt,⟨tv,dv,.slice none 0 0,h.blk,(ck.moves aF.moves).mv ⟨bk _,fun b _ q=>⟨gw b q,rfl⟩⟩ h.rt,h.ownD.rd aO.moves (by decide) (fun b _ q=>gw b q) (fun b e=>⟨(h.dLt e).1,h.ne b e,fun e=>(by cases e),fun f=>f⟩),rfl,rfl⟩,h.ownN,⟨[],gS _ _ _ 6,rfl⟩,fun k _ e=>(by cases e),fun _ f=>f.elim,fun _ _ f=>f,fun _ _ f=>f⟩
theorem Flat.last {α:Type}{V:jx α}{sz:Nat}{ok:Nat->Prop}{w:World}{x:α}:∀ (l:List α) (cs:List Value),Flat V sz ok w cs (l++[x])->∃ c u,cs=c++u/\Flat V sz ok w c l/\u.length=sz/\V ok w u x
 | [],_,⟨u,r,e,h1,h2,_,h4⟩=>⟨[],u,by simp only [Flat] at h4;rw [e,h4];simp,rfl,h1,h2⟩
 | y :: l,_,⟨u,r,e,h1,h2,h3,h4⟩=>by
  obtain ⟨c,u',e',k1,k2,k3⟩:=Flat.last l r h4;exact ⟨u++c,u',by rw [e,e',cV],⟨u,c,rfl,h1,h2,h3,k1⟩,k2,k3⟩
theorem F5 (c:List Value)(a0 a1 a2 a3 a4 a5 b0 b1 b2 b3 b4 b5:Value)(n:Nat)(hn:c.length=n) :
  ((((((c++[a0,a1,a2,a3,a4,a5]).set n b0).set (n+1) b1).set (n+2) b2).set (n+3) b3).set (n+4) b4).set (n+5) b5=c++[b0,b1,b2,b3,b4,b5]:=by
 subst hn;simp [List.set_append_right]
def fO (w:World)(b o:Nat)(b0 b1 b2 b3 b4 b5:Value):World:=(((((w.setCell ⟨b,o,none⟩ b0).setCell ⟨b,o+1,none⟩ b1).setCell ⟨b,o+2,none⟩ b2).setCell ⟨b,o+3,none⟩ b3).setCell ⟨b,o+4,none⟩ b4).setCell ⟨b,o+5,none⟩ b5
theorem si (w:World)(b o:Nat)(b0 b1 b2 b3 b4 b5:Value)(k:Nat)(h:k≠b):(fO w b o b0 b1 b2 b3 b4 b5).heap[k]?=w.heap[k]?:=by
 unfold fO;rw [bw _ _ _ _ h,bw _ _ _ _ h,bw _ _ _ _ h,bw _ _ _ _ h,bw _ _ _ _ h,bw _ _ _ _ h]
theorem sD (w:World)(b o:Nat)(b0 b1 b2 b3 b4 b5:Value):(fO w b o b0 b1 b2 b3 b4 b5).heap.size=w.heap.size:=by simp [fO,World.setCell]
theorem aH.setLast {X:Nat->Prop}{w0 w:World}{bs bb:Nat}{rK rN nv:Value}{g:af}{next:List Int}{vs:List ay}{v V:ay}{vb vc:Nat}{b0 b1 b2 b3 b4 b5:Value}
  (p:aH X bs bb rK rN w0 w nv (.slice (some ⟨vb,0,none⟩) (vs.length+1) vc) g next) (hg:g.F9=vs++[v]) (hV:aN (okB X bb nv (.slice (some ⟨vb,0,none⟩) (vs.length+1) vc)) w [b0,b1,b2,b3,b4,b5] V) (h1:∀ z∈[b0,b1,b2,b3,b4,b5],z.oneCell'=true) :
  aH X bs bb rK rN w0 (fO w vb (vs.length*6) b0 b1 b2 b3 b4 b5) nv (.slice (some ⟨vb,0,none⟩) (vs.length+1) vc) { g with F9:=vs++[V] } next:=by
 have h:=p.bld;have IV:=h.vLt (k:=vb) rfl;have hl:=h.lt;have kk:=fun k e=>si w vb (vs.length*6) b0 b1 b2 b3 b4 b5 k e;have hz:=sD w vb (vs.length*6) b0 b1 b2 b3 b4 b5;have hm:Mv (okB X bb nv (.slice (some ⟨vb,0,none⟩) (vs.length+1) vc)) (okB X bb nv (.slice (some ⟨vb,0,none⟩) (vs.length+1) vc)) w (fO w vb (vs.length*6) b0 b1 b2 b3 b4 b5):=⟨by omega,fun b _ ho=>⟨ho,kk b (fun e=>ho.2.2.1 (by rw [e];rfl))⟩⟩
 refine ⟨⟨h.src.keep fun i hi=>kk i (by omega),hl,?_,aC h.ownN fun k e=>kk k (fun q=>h.ne k e (by rw [q];rfl)),?_,h.ne,fun k hx=>⟨(h.xlt k hx).1,by rw [hz];exact (h.xlt k hx).2⟩,h.xn,h.xv⟩,?_,p.nfr,p.vfr⟩
 ·obtain ⟨tv,dv,hv,e,h1,h2,h3⟩:=h.blk
  exact ⟨tv,dv,hv,(kk bb (by omega)).trans e,(ck.moves aF.moves).mv hm h1,(ck.moves aO.moves).mv hm h2,h3⟩
 ·obtain ⟨cs,ho,hf⟩:=h.ownV
  rw [hg] at ho hf;obtain ⟨c,u,rfl,hc,hu,_⟩:=Flat.last vs cs hf;have Kj:=Flat.length _ _ hc
  obtain ⟨a0,a1,a2,a3,a4,a5,rfl⟩:∃ a0 a1 a2 a3 a4 a5,u=[a0,a1,a2,a3,a4,a5]:=by
   match u,hu with
   | [a,b,c,d,e,f],_=>exact ⟨a,b,c,d,e,f,rfl⟩
  have hle:(vs++[v]).length=vs.length+1:=by simp
  have hle':(vs++[V]).length=vs.length+1:=by simp
  rw [hle] at ho;have s:=(((((((ho.stored (vs.length*6) b0).1.stored (vs.length*6+1) b1).1.stored (vs.length*6+2) b2).1.stored (vs.length*6+3) b3).1.stored (vs.length*6+4) b4).1.stored (vs.length*6+5) b5)).1;rw [F5 c _ _ _ _ _ _ _ _ _ _ _ _ _ Kj] at s;refine ⟨c++[b0,b1,b2,b3,b4,b5],by rw [hle'];unfold fO;exact s,Flat.append (Flat.one rfl (aN.moves.mv hm hV) h1) _ _ (Flat.moves aN.moves hm _ _ hc)⟩
 ·refine p.mod.trans (G:=fun k=>k=vb) ⟨by simp [fO,World.setCell],by simp [fO,World.setCell],by simp [fO,World.setCell],by omega,fun k _ e=>kk k e⟩ (fun k e=>?_)
  subst e;rcases p.vfr k rfl with q | q
  ·exact .inl (.inr (.inr (.inr q)))
  ·exact .inr q
def Mm (bb:Nat)(hv:Value):Nat->Prop:=fun b=>bb<b/\hv.ownBlock≠some b
structure IM (bs bb:Nat)(w0:World)(g:af)(tv dv vv nv hv:Value)(hist:List (ByteArray × Int × Int))(w:World):Prop where
 lt:bs<bb
 src:Src w bs
 blk:w.heap[bb]?=some (.cells #[.pointer (some ⟨bs,0,none⟩),.string g.name,.int .u64 g.id,.int .i64 g.seq,.int .i64 g.Gd,.int .i64 g.next,tv,dv,vv,hv,nv] 87 (0,0))
 rt:ck aF 1 (Mm bb hv) w [tv] g.tags
 rd:ck aO 7 (Mm bb hv) w [dv] g.Gb
 rv:ck aN 6 (Mm bb hv) w [vv] g.F9
 own:bF lF 3 95 (bb+1) (Mm bb hv) w hv hist
 old:∀ k,k<bb->k≠bs->w.heap[k]?=w0.heap[k]?
 str:Str w0 w
theorem eW.hst {w0 w:World}{bs bb:Nat}{nv vv:Value}{g:af}{next:List Int}(h:eW (fun _=>False) w bs bb nv vv g next)(old:∀ k,k<bb->k≠bs->w.heap[k]?=w0.heap[k]?)(str:Str w0 w):∃ tv dv,IM bs bb w0 g tv dv vv nv (.slice none 0 0) [] w:=by
 obtain ⟨tv,dv,hv,e,h1,h2,rfl,_⟩:=h.blk;have hm:Mv (okB (fun _=>False) bb nv vv) (Mm bb (.slice none 0 0)) w w:=⟨bk _,fun b _ q=>⟨⟨q.1,fun e=>(by cases e)⟩,rfl⟩⟩
 exact ⟨tv,dv,h.lt,h.src,e,(ck.moves aF.moves).mv hm h1,(ck.moves aO.moves).mv hm h2,h.ownV.rd aN.moves (by decide) (fun b _ q=>⟨q.1,fun e=>(by cases e)⟩) (fun b e=>⟨(h.vLt e).1,fun e=>(by cases e)⟩),⟨[],gS _ _ _ 3,rfl⟩,old,str⟩
section
variable {bs bb:Nat}{w0 w w' w2:World}{g:af}{tv dv vv nv hv:Value}{hist:List (ByteArray × Int × Int)}
theorem IM.Gj (h:IM bs bb w0 g tv dv vv nv hv hist w):bb<w.heap.size:=aq h.blk
theorem IM.hLt (h:IM bs bb w0 g tv dv vv nv hv hist w){k:Nat}(e:hv.ownBlock=some k):bb<k/\k<w.heap.size:=by
 have:=h.own.ge0 e;omega
theorem IM.keep (h:IM bs bb w0 g tv dv vv nv hv hist w)(hst:Str w w')(hs:Src w' bs)(hz:w.heap.size<=w'.heap.size)(hk:∀ k,k<w.heap.size->k≠bs->w'.heap[k]?=w.heap[k]?):IM bs bb w0 g tv dv vv nv hv hist w':=by
 have hl:=h.lt;have hb:=h.Gj;have hm:Mv (Mm bb hv) (Mm bb hv) w w':=⟨hz,fun b hb ho=>⟨ho,hk b hb (by have:=ho.1;omega)⟩⟩;refine ⟨hl,hs,(hk bb hb (by omega)).trans h.blk,(ck.moves aF.moves).mv hm h.rt,(ck.moves aO.moves).mv hm h.rd,(ck.moves aN.moves).mv hm h.rv,?_,fun k h1 h2=>(hk k (by omega) h2).trans (h.old k h1 h2),h.str.trans hst⟩;have mb:=fun k e=>h.hLt (k:=k) e;obtain ⟨cs,ho,hf⟩:=h.own;exact ⟨cs,aC ho fun k e=>hk k (mb k e).2 (by have:=(mb k e).1;omega),Flat.moves lF.moves hm _ _ hf⟩
theorem IM.read (h:IM bs bb w0 g tv dv vv nv hv hist w)(hs:Src w' bs)(hm:cR (fun i=>i=bs) w w'):IM bs bb w0 g tv dv vv nv hv hist w':=h.keep hm.str hs hm.size fun k hk hn=>hm.block k hk hn
theorem IM.below (h:IM bs bb w0 g tv dv vv nv hv hist w)(hb:Below w.heap.size w w'):IM bs bb w0 g tv dv vv nv hv hist w' :=
 h.keep (ow hb) (h.src.keep fun i hi=>hb.block i (by have:=h.lt;have:=h.Gj;omega)) hb.size fun k hk _=>hb.block k hk
theorem IM.push {x:ByteArray × Int × Int}{u:List Value}{gb cap:Nat}(h:IM bs bb w0 g tv dv vv nv hv hist w)
  (hp:jN lF 3 95 (bb+1) (fun _=>False) w hv hist x u gb cap w2) :
  IM bs bb w0 g tv dv vv nv (.slice (some ⟨gb,0,none⟩) (hist.length+1) cap) (hist++[x]) (w2.setCell ⟨bb,9,none⟩ (.slice (some ⟨gb,0,none⟩) (hist.length+1) cap))/\w2.heap[bb]?=w.heap[bb]?:=by
 have hl:=h.lt;have hb:=h.Gj;have hz:=hp.grown.size;have kw:∀ k,k<w.heap.size->hv.ownBlock≠some k->w2.heap[k]?=w.heap[k]?:=fun k h1 h2=>hp.grown.block k h1 fun e=>h2 e.symm;have pC:w2.heap[bb]?=w.heap[bb]?:=kw bb hb fun e=>by have:=h.hLt e;omega
 have kk:∀ k,k≠bb->(w2.setCell ⟨bb,9,none⟩ (.slice (some ⟨gb,0,none⟩) (hist.length+1) cap)).heap[k]?=w2.heap[k]?:=fun k e=>bw _ _ _ _ e;have hzz:(w2.setCell ⟨bb,9,none⟩ (.slice (some ⟨gb,0,none⟩) (hist.length+1) cap)).heap.size=w2.heap.size:=by simp [World.setCell]
 have OH:∀ b,Mm bb hv b->b<w.heap.size->b≠gb:=fun b h1 h2 e=>by
  subst e;rcases hp.at' with q | q
  ·exact h1.2 q
  ·omega
 have old:∀ k,k<bb->(w2.setCell ⟨bb,9,none⟩ (.slice (some ⟨gb,0,none⟩) (hist.length+1) cap)).heap[k]?=w.heap[k]?:=fun k hk=>(kk k (by omega)).trans (kw k (by omega) fun e=>by have:=h.hLt e;omega);have hm:Mv (Mm bb hv) (Mm bb (.slice (some ⟨gb,0,none⟩) (hist.length+1) cap)) w (w2.setCell ⟨bb,9,none⟩ (.slice (some ⟨gb,0,none⟩) (hist.length+1) cap)):=⟨by omega,fun b h1 h2=>⟨⟨h2.1,fun e=>OH b h2 h1 (by injection e with e;exact e.symm)⟩,(kk b (by have:=h2.1;omega)).trans (kw b h1 h2.2)⟩⟩
 refine ⟨⟨hl,h.src.keep fun i hi=>old i (by omega),?_,(ck.moves aF.moves).mv hm h.rt,(ck.moves aO.moves).mv hm h.rd,(ck.moves aN.moves).mv hm h.rv,?_,fun k h1 h2=>(old k h1).trans (h.old k h1 h2),(h.str.trans (nQ hp.grown)).trans ⟨rfl,rfl,rfl⟩⟩,pC⟩
 ·exact block_setCell (i:=9) _ (pC.trans h.blk)
 ·obtain ⟨cs,ho,hf⟩:=hp.own
  exact ⟨cs,aC ho fun k e=>kk k (by have:=(ho.lt k e).1;omega),Flat.moves lF.moves ⟨by omega,fun b _ f=>f.elim⟩ _ _ hf⟩
end
def letter (i:Nat):ByteArray:=⟨#[(97+i).toUInt8]⟩
inductive iy (name:ByteArray)(g:af)(next:List Int):af->List Int->Prop
 | linF:iy name g next { g with next:=g.next+1 } next
 | lin {n s:Int} {on:ByteArray} {next1 next':List Int} {Gf:List aB} {ps:List (ByteArray × Int × Int)} (hn:1<=n/\n<=4) (h1:fZ g.Gb next [(on,s,n)] next1) (hm:fB [dE n on s] Gf) (hl:Gf.length<=3) (h2:fZ g.Gb next1 ps next') (hs:List.Sublist ((Gf.drop 1).flatMap iG) ps) :
   iy name g next { g with next:=g.next+1,F9:=g.F9++[⟨name,oX g.id (g.next+1),false,false,[],Gf⟩] } next'
 | strF {ps:List (ByteArray × Int × Int)} {next':List Int} (h:fZ g.Gb next ps next'):iy name g next g next'
 | str {k n:Int} {al:List aR} {next':List Int} (hk:2<=k/\k<=3) (hn:1<=n/\n<=2) (hl:(al.length:Int)=k) (ha:∀ a∈al,a.vol=false) (h:fZ g.Gb next (UO n al) next') :
   iy name g next { g with next:=g.next+1,F9:=g.F9++[mf name (oX g.id (g.next+1)) k n al] } next'
 | compF {j:Nat} (h:j<=8):iy name g next { g with next:=g.next+j } next
 | comp {kind n:Int} {names:List ByteArray} {lengths:List Int} {x:aB} {ps:List (ByteArray × Int × Int)} {vl tl:List ay} {ro:Bool} {tags:List ByteArray} {k j:Nat} {next':List Int} (AK:kind=3\/kind=4\/kind=5\/kind=7) (hn:1<=n/\n<=3) (hR:ik g.Gd n name kind names lengths x)
   (hH:lD g.id g.next names lengths ps vl) (hT:fZ g.Gb next ps next') (ht:List.Sublist tags iQ) (hk:k<=2) (hk5:kind≠5->k=j/\k=0) (Mf:iO g.id name k (g.next+names.length+1+1) j tl) :
   iy name g next { g with next:=g.next+names.length+1+tl.length,F9:=g.F9++vl++[⟨name,oX g.id (g.next+names.length+1),false,ro,tags,[x]⟩]++tl } next'
inductive bZ (c:Nat)(g0:af)(n0:List Int):Nat->af->List Int->Prop
 | nil:bZ c g0 n0 c g0 n0
 | step {i:Nat} {g g':af} {next next':List Int} (h:bZ c g0 n0 (i+1) g next) (hs:iy (letter (i+1)) g next g' next'):bZ c g0 n0 i g' next'
theorem bZ.next {c:Nat}{g0:af}{n0:List Int}{i:Nat}{g g':af}{next next':List Int}(hi:0<i)(h:bZ c g0 n0 i g next)(hs:iy (letter i) g next g' next'):bZ c g0 n0 (i - 1) g' next':=by
 obtain ⟨j,rfl⟩:∃ j,i=j+1:=⟨i - 1,by omega⟩;exact .step h hs
theorem iO.len {id:Int}{name:ByteArray}{k:Nat}{c:Int}{j:Nat}{tl:List ay}(h:iO id name k c j tl):tl.length+j=k:=by
 induction h with
 | nil=>simp
 | snoc _ _ ih=>simp;omega
structure Fh (g:af)(next:List Int)(g':af)(next':List Int):Prop where
 same:g'.name=g.name/\g'.id=g.id/\g'.seq=g.seq/\g'.Gd=g.Gd/\g'.tags=g.tags/\g'.Gb=g.Gb/\g'.history=g.history
 F9:g'.F9.length<=g.F9.length+11
 nx1:g.next<=g'.next
 nx2:g'.next<=g.next+11
 dk:JQ g.Gb next->JQ g.Gb next'
theorem iy.bd {name:ByteArray}{g g':af}{next next':List Int}(h:iy name g next g' next')(he:1<=g.Gd/\g.Gd<=16):Fh g next g' next':=by
 cases h with
 | linF=>exact ⟨⟨rfl,rfl,rfl,rfl,rfl,rfl,rfl⟩,by simp,by dsimp only;omega,by dsimp only;omega,fun q=>q⟩
 | lin hn h1 hm hl h2 hs=>exact ⟨⟨rfl,rfl,rfl,rfl,rfl,rfl,rfl⟩,by simp,by dsimp only;omega,by dsimp only;omega,fun q=>h2.ok (h1.ok q)⟩
 | strF h=>exact ⟨⟨rfl,rfl,rfl,rfl,rfl,rfl,rfl⟩,by omega,by omega,by omega,fun q=>h.ok q⟩
 | str hk hn hl ha h=>exact ⟨⟨rfl,rfl,rfl,rfl,rfl,rfl,rfl⟩,by simp,by dsimp only;omega,by dsimp only;omega,fun q=>h.ok q⟩
 | compF h=>exact ⟨⟨rfl,rfl,rfl,rfl,rfl,rfl,rfl⟩,by simp,by dsimp only;omega,by dsimp only;omega,fun q=>q⟩
 | comp AK hn hR hH hT ht hk hk5 Mf =>
  have h1:=hR.ok he.1 he.2 hn.1 hn.2;have h2:=hH.len;have h3:=Mf.len;exact ⟨⟨rfl,rfl,rfl,rfl,rfl,rfl,rfl⟩,by simp;omega,by dsimp only;omega,by dsimp only;omega,fun q=>hT.ok q⟩
structure Zy (c i:Nat)(g0:af)(g:af)(next:List Int):Prop where
 same:g.name=g0.name/\g.id=g0.id/\g.seq=g0.seq/\g.Gd=g0.Gd/\g.tags=g0.tags/\g.Gb=g0.Gb/\g.history=g0.history
 le:i<=c
 F9:g.F9.length<=11*(c - i)
 nx1:0<=g.next
 nx2:g.next<=11*((c:Int) - i)
 dk:JQ g0.Gb next
theorem bZ.bd {c:Nat}{g0:af}{n0:List Int}(h0:g0.F9=[]/\g0.next=0)(he:1<=g0.Gd/\g0.Gd<=16)(hd:JQ g0.Gb n0){i:Nat}{g:af}{next:List Int}(h:bZ c g0 n0 i g next):Zy c i g0 g next:=by
 induction h with
 | nil=>exact ⟨⟨rfl,rfl,rfl,rfl,rfl,rfl,rfl⟩,bk _,by simp [h0.1],by omega,by omega,hd⟩
 | @step i g g' next next' h hs ih =>
  obtain ⟨e1,e2,e3,e4,e5,e6,e7⟩:=ih.same;have b:=hs.bd (by rw [e4];exact he);obtain ⟨q1,q2,q3,q4,q5,q6,q7⟩:=b.same;have h1:=ih.le;have h2:=ih.F9;have h3:=ih.nx1;have h4:=ih.nx2;have h5:=b.F9;have h6:=b.nx1;have h7:=b.nx2;exact ⟨⟨q1.trans e1,q2.trans e2,q3.trans e3,q4.trans e4,q5.trans e5,q6.trans e6,q7.trans e7⟩,by omega,by omega,by omega,by omega,e6 ▸ b.dk (e6.symm ▸ ih.dk)⟩
theorem tY {ok ok':Nat->Prop}{w:World}:∀ (l:List (ByteArray × Int × Int)) (cs:List Value),Flat lF 3 ok w cs l->Flat lF 3 ok' w cs l
 | [],_,h=>h
 | _ :: l,_,⟨u,r,e,h1,h2,h3,h4⟩=>⟨u,r,e,h1,h2,h3,tY l r h4⟩
theorem Ef:(prog.info? 95).map (fun i=>(i.zero,i.size,i.bytes))=some (some (.agg #[.string ⟨#[]⟩,.int .u64 0,.int .i64 0]),3,32):=by kernel_rfl
theorem wG {bs bb i:Nat}{w0 w:World}{g:af}{tv dv vv nv hv:Value}{hist:List (ByteArray × Int × Int)}(D0:IM bs bb w0 g tv dv vv nv hv hist w)(hn:hist.length<=100)(hi2:i<=2)
  (c0 c1 c2 c4 c5 c6 c7 c8 c9 c10 c12 c13 c14 c15 c16 c17 c18 c19 c20 c21 c22 c23 c24 c25 c26 c27 c28 c29 c30 c31 c32 c33 c34 c35 c36 c37 c38 c39 c40 c41 c42 c43 c44 c45 c46 c47 c48 c49 c50 c51 c52 c53 c54 c55 c56 c57 c58 c59 c60 c61 c62 c63 c64 c65 c66 c67 c68 c69 c70 c71 c72 c73 c74 c75 c76 c77 c78 c79 c80 c81 c82 c83 c84 c85 c86 c87 c88 c89 c90 c91 c92 c93 c94 c95 c96 c97 c98 c99 c100 c101 c102 c103 c104 c105 c106 c107 c108 c109 c110 c111 c112 c113 c114 c115 c116 c117 c118 c119 c120 c121 c122 c123 c124 c125 c126 c127 c128 c129 c130 c131 c132 c133 c134 c135 c136 c137 c138 c139 c140 c141 c142 c143 c144 c145 c146 c147 c148 c149 c150 c151 c152 c153 c154 c155 c156 c157 c158 c159 c160 c161 c162 c163 c164 c165 c166 c167 c168 c169 c170 c171 c172 c173 c174 c175 c176 c177 c178 c179 c180 c181:Value) (Q:Exit->Act->World->Prop)
  (HK:Hid (∀ (hv':Value) (w':World) (u163 u164 u165 u166 u167 u168 u169 u170 u171 u172 u173 u174 u175 u176 u177:Value),IM bs bb w0 g tv dv vv nv hv' (hist++[(BQ,(i:Int),(i:Int))]) w'->Q .normal ⟨#[c0,c1,c2,.pointer (some ⟨bb,0,none⟩),c4,c5,c6,c7,c8,c9,c10,.int .i64 (i:Int),c12,c13,c14,c15,c16,c17,c18,c19,c20,c21,c22,c23,c24,c25,c26,c27,c28,c29,c30,c31,c32,c33,c34,c35,c36,c37,c38,c39,c40,c41,c42,c43,c44,c45,c46,c47,c48,c49,c50,c51,c52,c53,c54,c55,c56,c57,c58,c59,c60,c61,c62,c63,c64,c65,c66,c67,c68,c69,c70,c71,c72,c73,c74,c75,c76,c77,c78,c79,c80,c81,c82,c83,c84,c85,c86,c87,c88,c89,c90,c91,c92,c93,c94,c95,c96,c97,c98,c99,c100,c101,c102,c103,c104,c105,c106,c107,c108,c109,c110,c111,c112,c113,c114,c115,c116,c117,c118,c119,c120,c121,c122,c123,c124,c125,c126,c127,c128,c129,c130,c131,c132,c133,c134,c135,c136,c137,c138,c139,c140,c141,c142,c143,c144,c145,c146,c147,c148,c149,c150,c151,c152,c153,c154,c155,c156,c157,c158,c159,c160,c161,c162,u163,u164,u165,u166,u167,u168,u169,u170,u171,u172,u173,u174,u175,u176,u177,c178,c179,c180,c181],[]⟩ w')) :
  Code.wp prog (nA 25) Q ⟨#[c0,c1,c2,.pointer (some ⟨bb,0,none⟩),c4,c5,c6,c7,c8,c9,c10,.int .i64 (i:Int),c12,c13,c14,c15,c16,c17,c18,c19,c20,c21,c22,c23,c24,c25,c26,c27,c28,c29,c30,c31,c32,c33,c34,c35,c36,c37,c38,c39,c40,c41,c42,c43,c44,c45,c46,c47,c48,c49,c50,c51,c52,c53,c54,c55,c56,c57,c58,c59,c60,c61,c62,c63,c64,c65,c66,c67,c68,c69,c70,c71,c72,c73,c74,c75,c76,c77,c78,c79,c80,c81,c82,c83,c84,c85,c86,c87,c88,c89,c90,c91,c92,c93,c94,c95,c96,c97,c98,c99,c100,c101,c102,c103,c104,c105,c106,c107,c108,c109,c110,c111,c112,c113,c114,c115,c116,c117,c118,c119,c120,c121,c122,c123,c124,c125,c126,c127,c128,c129,c130,c131,c132,c133,c134,c135,c136,c137,c138,c139,c140,c141,c142,c143,c144,c145,c146,c147,c148,c149,c150,c151,c152,c153,c154,c155,c156,c157,c158,c159,c160,c161,c162,c163,c164,c165,c166,c167,c168,c169,c170,c171,c172,c173,c174,c175,c176,c177,c178,c179,c180,c181],[]⟩ w:=by
 conv=>arg 2;whnf
 have hlt:=D0.lt;have cX:=D0.Gj;have hc:=cr D0.blk 9 _ rfl
 have hw2:IntKind.u64.wrap (i:Int)=(i:Int):=IntWalk.u64_in _ (by omega);have D1:=D0.below (ae w (.cells #[.string ⟨#[111,108,100]⟩,.int .u64 (i:Int),.int .i64 (i:Int)] 95));have OS:bb<(w.alloc (.cells #[.string ⟨#[111,108,100]⟩,.int .u64 (i:Int),.int .i64 (i:Int)] 95)).heap.size:=D1.Gj;obtain ⟨i0,hi,hz0,hz1,hz2⟩:=ei Ef;have HI:=aa hi;clear hi;have H0:=aa hz0;clear hz0;have H1:=aa hz1;clear hz1;have H2:=aa hz2;clear hz2;have HD1:=aa D1;clear D1
 go_wp2_with (at_builtin;refine dX lF.moves underlying29 HI.o H0.o H1.o H2.o rfl (by decide) (by decide) rfl _ _ rfl (bb+1) (fun _=>False) hv hist (BQ,(i:Int),(i:Int)) rfl ?d1 w.heap.size 1 [.string ⟨#[111,108,100]⟩,.int .u64 (i:Int),.int .i64 (i:Int)] rfl rfl ?d2 ?d3 ?d4 ?d5 ?d6 ?d7 ?_)
 case d1 =>
  obtain ⟨cs,ho,hf⟩:=HD1.o.own;exact ⟨cs,ho,tY _ _ hf⟩
 case d2=>exact rfl
 case d3=>simp [Value.oneCell']
 all_goals first | (case d4=>(intro j y hy;exact aD rfl (by simpa using hy))) | (case d5=>omega) | (case d6=>omega) | (case d7=>exact fun _ _ f=>f) | skip
 intro gb cap w3 hp;obtain ⟨D3,hx⟩:=HD1.o.push hp;have y7:w3.cell? ⟨bb,9,none⟩=some hv:=by simp [World.cell?,hx,HD1.o.blk]
 have yf:w3.frozen? ⟨bb,9,none⟩=false:=by simp [World.frozen?,hx,HD1.o.blk]
 clear hp hx hc;go_wp2;exact HK.o _ _ _ _ _ _ _ _ _ _ _ _ _ _ _ _ _ D3
theorem wN {X:Nat->Prop}{bs bb vb vc sb M:Nat}{nv:Value}{g:af}{next:List Int}{w:World}{vs:List ay}{name on:ByteArray}{mz n s:Int}(h:eW X w bs bb nv (.slice (some ⟨vb,0,none⟩) (M+1) vc) g next)(hk:Ld g next)(hM:vs.length=M)(hg:g.F9=vs++[eD name mz false n on s])(hn:1<=n/\n<=4)(hT:w.cell? ⟨vb,M*6+5,none⟩=some (.slice (some ⟨sb,0,none⟩) 1 1))
  (c0 c1 c2 c4 c5 c6 c7 c8 c9 c10 c11 c12 c13 c14 c15 c16 c17 c18 c19 c20 c21 c22 c23 c24 c25 c26 c27 c28 c29 c30 c31 c32 c33 c34 c35 c36 c37 c38 c39 c40 c41 c42 c43 c44 c45 c46 c47 c48 c49 c50 c51 c52 c53 c54 c55 c56 c57 c58 c59 c60 c61 c62 c63 c64 c65 c66 c67 c68 c69 c70 c71 c72 c73 c74 c75 c76 c77 c78 c79 c80 c81 c82 c83 c84 c85 c86 c87 c88 c89 c90 c91 c92 c93 c94 c95 c96 c97 c98 c99 c100 c101 c102 c103 c104 c105 c106 c107 c108 c109 c110 c111 c112 c113 c114 c115 c116 c117 c118 c119 c120 c121 c122 c123 c124 c125 c126 c127 c128 c129 c130 c131 c132 c133 c134 c135 c136 c137 c138 c139 c140 c141 c142 c143 c144 c145 c146 c147 c148 c149 c150 c151 c152 c153 c154 c155 c156 c157 c158 c159 c160 c161 c162 c163 c164 c165 c166 c167 c168 c169 c170 c171 c172 c173 c174 c175 c176 c177 c178 c179 c180 c181:Value) (Q:Exit->Act->World->Prop) (hQ:∀ c (a:Act) (d:Tmp) (v:Value) w,Q (.panic c) (a.put (some d) v) w->Q (.panic c) a w)
  (HK:Hid (∀ (Gf:List aB) (ps:List (ByteArray × Int × Int)) (next':List Int) (w':World) (u122 u123 u124 u125 u126 u127 u128 u129 u130 u131 u132 u133 u134 u135 u136 u137 u138 u139 u140 u141 u142 u143 u144 u145 u146 u147 u148 u149 u150:Value),fB (eD name mz false n on s).Gf Gf->Gf.length<=3->fZ g.Gb next ps next'->List.Sublist ((Gf.drop 1).flatMap iG) ps->aH X bs bb nv (.slice (some ⟨vb,0,none⟩) (M+1) vc) w w' nv (.slice (some ⟨vb,0,none⟩) (M+1) vc) { g with F9:=vs++[⟨name,mz,false,false,[],Gf⟩] } next'->Q .normal ⟨#[c0,c1,c2,.pointer (some ⟨bb,0,none⟩),c4,c5,c6,c7,c8,c9,c10,c11,c12,c13,c14,c15,c16,c17,c18,c19,c20,c21,c22,c23,c24,c25,c26,c27,c28,c29,c30,c31,c32,c33,c34,c35,c36,c37,c38,c39,c40,c41,c42,c43,c44,c45,c46,c47,c48,c49,c50,c51,c52,c53,c54,c55,c56,c57,c58,c59,c60,c61,c62,c63,c64,c65,c66,c67,c68,c69,c70,c71,c72,c73,c74,c75,c76,c77,c78,c79,c80,c81,c82,c83,c84,c85,c86,c87,c88,c89,c90,c91,c92,c93,c94,c95,c96,c97,c98,c99,c100,c101,c102,c103,c104,c105,c106,c107,c108,c109,c110,c111,c112,c113,c114,c115,c116,c117,c118,c119,c120,c121,u122,u123,u124,u125,u126,u127,u128,u129,u130,u131,u132,u133,u134,u135,u136,u137,u138,u139,u140,u141,u142,u143,u144,u145,u146,u147,u148,u149,u150,c151,c152,c153,c154,c155,c156,c157,c158,c159,c160,c161,c162,c163,c164,c165,c166,c167,c168,c169,c170,c171,c172,c173,c174,c175,c176,c177,c178,c179,c180,c181],[]⟩ w')) :
  Code.wp prog (nA 19) Q ⟨#[c0,c1,c2,.pointer (some ⟨bb,0,none⟩),c4,c5,c6,c7,c8,c9,c10,c11,c12,c13,c14,c15,c16,c17,c18,c19,c20,c21,c22,c23,c24,c25,c26,c27,c28,c29,c30,c31,c32,c33,c34,c35,c36,c37,c38,c39,c40,c41,c42,c43,c44,c45,c46,c47,c48,c49,c50,c51,c52,c53,c54,c55,c56,c57,c58,c59,c60,c61,c62,c63,c64,c65,c66,c67,c68,c69,c70,c71,c72,c73,c74,c75,c76,c77,c78,c79,c80,c81,c82,c83,c84,c85,c86,c87,c88,c89,c90,c91,c92,c93,c94,c95,c96,c97,c98,c99,c100,c101,c102,c103,c104,c105,c106,c107,c108,c109,c110,c111,c112,c113,c114,c115,c116,c117,c118,c119,c120,c121,c122,c123,c124,c125,c126,c127,c128,c129,c130,c131,c132,c133,c134,c135,c136,c137,c138,c139,c140,c141,c142,c143,c144,c145,c146,c147,c148,c149,c150,c151,c152,c153,c154,c155,c156,c157,c158,c159,c160,c161,c162,c163,c164,c165,c166,c167,c168,c169,c170,c171,c172,c173,c174,c175,c176,c177,c178,c179,c180,c181],[]⟩ w:=by
 conv=>arg 2;whnf
 have hlt:=h.lt;have cX:=h.Gj;have mb:=hk.vl;have hM1:M<=99:=by rw [hg,cD,hM] at mb;simp at mb;omega
 clear mb;have hc8:=h.c8;have hle:(vs++[eD name mz false n on s]).length=M+1:=by simp [hM]
 obtain ⟨cl,ho,hf⟩:=h.ownV;rw [hg] at ho hf;rw [hle] at ho
 have ij:M+1<=vc/\vc<=9223372036854775807:=by
  rcases ho.2 with ⟨e,_⟩ | ⟨g0,c0,cur,e,_,_,h1,h2,_⟩
  ·cases e
  ·injection e with _ _ e3
   subst e3;exact ⟨h1,by unfold maxLen at h2;omega⟩
 have Q6:=ij.1;have Km:=ij.2;clear ij;obtain ⟨c,u,rfl,hc,hu,hv⟩:=Flat.last vs cl hf;have Kj:=Flat.length _ _ hc;rw [hM] at Kj;obtain ⟨tv,sv,rfl,ht,hs⟩:=hv;obtain ⟨tp,tc,ht1,ht2,ht3,_⟩:=ht;obtain rfl:tv=.slice tp 0 tc:=by injection ht1
 have hcc:∀ (j:Nat) (z:Value),[.string name,.int .u64 mz,.bool false,.bool false,.slice tp 0 tc,sv][j]?=some z->w.cell? ⟨vb,M*6+j,none⟩=some z:=fun j z hz=>by
  have hj:j<6:=(List.getElem?_eq_some_iff.1 hz).1;rw [ho.cellAt (M*6+j) (by omega),Cp (by omega),Kj,Nat.add_sub_cancel_left];exact hz
 obtain ⟨q0,q1,q2,q3,q4,q5⟩:=JR hcc;obtain rfl:sv=.slice (some ⟨sb,0,none⟩) 1 1:=by rw [hT] at q5;injection q5 with q5;exact q5.symm
 have HT:Hid (iL bC 11 (okB X bb nv (.slice (some ⟨vb,0,none⟩) (M+1) vc)) w (.slice (some ⟨sb,0,none⟩) 1 1) [dE n on s]):=by
  obtain ⟨p,c,e,_,_,h3⟩:=hs;obtain ⟨b,o,rfl,hb,gR,hcv⟩:=h3 (by simp [eD])
  obtain ⟨rfl,rfl⟩:sb=b/\0=o:=by
   injection e with e
   injection e with e
   injection e with e
   injection e with e1 e2
   exact ⟨e1,e2⟩
  obtain ⟨u,hu,hv,hc⟩:=hcv 0 _ rfl;refine aa ⟨sb,u,rfl,hb,gR,Flat.one hu hv ?_,fun j y hy=>by simpa using hc j y hy,by simp⟩;obtain ⟨a,st,rfl,⟨_,_,ea,_⟩,⟨_,_,es',_⟩⟩:=hv;obtain rfl:=List.singleton_inj.1 ea;obtain rfl:=List.singleton_inj.1 es';simp [Value.oneCell']
 clear hcc hT hs ht1 hu hc hf ho Kj;refine aL (fun w'=>w'.cell? ⟨bb,8,none⟩=some (.slice (some ⟨vb,0,none⟩) (M+1) vc)) 28 [0,1,2,3,5,6,7,8,12,13,14,15,16,18,19,20,21] (by kernel_rfl) hc8 (fun hHeld=>?_);have hwM:IntKind.i64.wrap (M:Int)=(M:Int):=dy _ (by omega);have z1:(0:Int)<=(M:Int):=by omega
 have z2:(M:Int)<(M:Int)+1:=by omega
 refine gC hQ 0 ?_;try simp only [ak];refine gC hQ 1 ?_;try simp only [ak];refine gC hQ 2 ?_;try simp only [ak];refine gC hQ 3 ?_;try simp only [ak];refine gC hQ 5 ?_;try simp only [ak];refine gC hQ 6 ?_;try simp only [ak];refine gC hQ 7 ?_;try simp only [ak];refine gC hQ 8 ?_;try simp only [ak];refine gC hQ 12 ?_;try simp only [ak];refine gC hQ 13 ?_;try simp only [ak];refine gC hQ 14 ?_;try simp only [ak];refine gC hQ 15 ?_;try simp only [ak];refine gC hQ 16 ?_;try simp only [ak];refine gC hQ 18 ?_;try simp only [ak];refine gC hQ 19 ?_;try simp only [ak];refine gC hQ 20 ?_;try simp only [ak];refine gC hQ 21 ?_;try simp only [ak];refine cH hQ 4 hHeld ?_;try simp only [ak];refine cH hQ 9 hHeld ?_;try simp only [ak];refine cH hQ 17 hHeld ?_;try simp only [ak];refine cH hQ 22 hHeld ?_;try simp only [ak];refine cH hQ 10 hHeld ?_;try simp only [ak];refine cH hQ 11 hHeld ?_;try simp only [ak];refine cH hQ 23 hHeld ?_;try simp only [ak];refine cH hQ 24 hHeld ?_;try simp only [ak];refine cH hQ 25 hHeld ?_;try simp only [ak];have h1:=h.below ((bj _ _).drew);have hwd0:w.drew.heap=w.heap:=rfl;have d0:w.drew.cell? ⟨vb,M*6,none⟩=_:=q0;have d1:w.drew.cell? ⟨vb,M*6+1,none⟩=_:=q1;have d2:w.drew.cell? ⟨vb,M*6+2,none⟩=_:=q2;have d3:w.drew.cell? ⟨vb,M*6+3,none⟩=_:=q3;have d4:w.drew.cell? ⟨vb,M*6+4,none⟩=_:=q4;have d5:w.drew.cell? ⟨vb,M*6+5,none⟩=_:=q5;refine lR 26 fun K1 hK1=>?_;go_simp;refine hK1.o _ _ hHeld ?_;clear hK1 K1 q0 q1 q2 q3 q4 q5 d0 d1 d2 d3 d4 d5;refine lR 27 fun K1 hK1=>?_;go_simp;have Rt:Hid (iL bC 11 (okB X bb nv (.slice (some ⟨vb,0,none⟩) (M+1) vc)) w.drew (.slice (some ⟨sb,0,none⟩) 1 1) [dE n on s]):=aa (HT.o.moves bC.moves ⟨bk _,fun _ _ q=>⟨q,rfl⟩⟩);generalize hwd:w.drew=wd at *;refine (CE X bs bb sb 0 tc tp nv _ g next wd h1 hk name mz false false (dE n on s) (by simp only [dE];omega) Rt.o).mono ?_;rintro e w6 ⟨sv,Gf,ps,next',rfl,Xw,GF,DB,u9,P6,kf⟩;refine hK1.o _ _ P6.bld.c8 ?_;clear hK1 K1 hHeld HT Rt;refine aP (by kernel_rfl) rfl ?_;simp only [cQ,cL];have B2:=aa kf;obtain ⟨sp,sc,IZ,_⟩:=kf;obtain rfl:sv=.slice sp Gf.length sc:=by injection IZ
 clear IZ;obtain ⟨cl,ho,hf⟩:=P6.bld.ownV;rw [hg] at ho;rw [hle] at ho;have JI:=ho.1
 have hcw:∀ j,j<6->∃ z,w6.cell? ⟨vb,M*6+j,none⟩=some z:=fun j hj=>by
  rw [ho.cellAt (M*6+j) (by omega)];exact aj cl (M*6+j) (by rw [JI];omega)
 have Yi:=ho.frozenAt;obtain ⟨z0,y0⟩:=hcw 0 (by omega);obtain ⟨z1',y1⟩:=hcw 1 (by omega);obtain ⟨z2',y2⟩:=hcw 2 (by omega);obtain ⟨z3,y3⟩:=hcw 3 (by omega);obtain ⟨z4,y4⟩:=hcw 4 (by omega);obtain ⟨z5,y5⟩:=hcw 5 (by omega);replace y0:w6.cell? ⟨vb,M*6,none⟩=some z0:=y0;clear hcw ho hf JI;have P0:aH X bs bb nv (.slice (some ⟨vb,0,none⟩) (M+1) vc) w wd nv (.slice (some ⟨vb,0,none⟩) (M+1) vc) g next:=by rw [<- hwd];exact (aH.refl h).drewN 1
 have HP:=aa (P0.trans P6);clear P0 P6 h1;go_wp2;subst hM;exact HK.o Gf ps next' _ _ _ _ _ _ _ _ _ _ _ _ _ _ _ _ _ _ _ _ _ _ _ _ _ _ _ _ _ _ Xw GF DB u9 (HP.o.setLast hg ⟨_,_,rfl,⟨tp,tc,rfl,ht2,ht3,fun q=>absurd q (by simp)⟩,B2.o⟩ (by simp [Value.oneCell']))
end Go.Proofs.YtjdfihglehfelaaGreatDoor
