/- Lemmas: MkSd, MkSa. -/
import Derived.Test.YtjdfihglehfelaaGreatDoorPf10
import Derived.Test.YtjdfihglehfelaaGreatDoorPf40
set_option maxRecDepth 100000
set_option maxHeartbeats 32000000
set_option linter.all false
namespace Go.Proofs.YtjdfihglehfelaaGreatDoor
open Go.Proofs.Tryz
open Go.RowKit
theorem tH {ok:Nat->Prop}{w:World}:∀ (l:List Int) (cs:List Value),Flat cO 1 ok w cs l->cs=l.map (Value.int .i64)
 | [],_,h=>h
 | x :: l,_,⟨u,r,e,h1,h2,h3,h4⟩=>by
  have:=tH l r h4;rw [e,this,show u=[.int .i64 x] from h2];rfl
theorem rU {ok:Nat->Prop}{w:World}:∀ l:List Int,Flat cO 1 ok w (l.map (Value.int .i64)) l
 | []=>rfl
 | x :: l=>⟨[.int .i64 x],l.map (Value.int .i64),rfl,rfl,rfl,by simp [Value.oneCell'],rU l⟩
theorem eG.ownS {w:World}{B:Nat}{v:Value}{l:List Int}(h:eG w B v l)(ok:Nat->Prop):bF cO 1 3 B ok w v l:=⟨_,h,rU l⟩
theorem bF.ownI {w:World}{B:Nat}{v:Value}{l:List Int}{ok:Nat->Prop}(h:bF cO 1 3 B ok w v l):eG w B v l:=by
 obtain ⟨cs,h1,h2⟩:=h;rw [tH l cs h2] at h1;exact h1
structure Str (w0 w:World):Prop where
 os:w.os=w0.os
 tape:w.tape=w0.tape
 output:w.output=w0.output
theorem Str.refl (w:World):Str w w:=⟨rfl,rfl,rfl⟩
theorem Str.trans {a b c:World}(h:Str a b)(k:Str b c):Str a c:=⟨k.os.trans h.os,k.tape.trans h.tape,k.output.trans h.output⟩
theorem cR.str {F:Nat->Prop}{a b:World}(h:cR F a b):Str a b:=⟨h.os,h.tape,h.output⟩
theorem ow {B:Nat}{a b:World}(h:Below B a b):Str a b:=⟨h.os,h.tape,h.output⟩
theorem nQ {a b:World}{row:Option Nat}(h:a.grownBy b row):Str a b:=⟨h.os,h.tape,h.output⟩
def NI:ByteArray:=⟨#[112,118]⟩
def KX:ByteArray:=⟨#[118,103]⟩
def BQ:ByteArray:=⟨#[111,108,100]⟩
structure rH (k:Nat)(D:az):Prop where
 name:D.name=NI++digit k
 id:D.id=k+1
 first:8<=D.first/\D.first<=16
 ext:D.Gc∈([0,4,12,30,60]:List Int)
 tags:List.Sublist D.tags iQ
def okD (bb:Nat)(dv nv:Value):Nat->Prop:=fun b=>bb<b/\dv.ownBlock≠some b/\nv.ownBlock≠some b
structure vy (bs bb:Nat)(id seq ext:Int)(tags:List ByteArray)(w0:World)(tv dv nv:Value)(Gb:List az)(next:List Int)(w:World):Prop where
 src:Src w bs
 lt:bs<bb
 blk:w.heap[bb]?=some (.cells #[.pointer (some ⟨bs,0,none⟩),.string KX,.int .u64 id,.int .i64 seq,.int .i64 ext,.int .i64 0,tv,dv,.slice none 0 0,.slice none 0 0,nv] 87 (0,0))
 rt:ck aF 1 (okD bb dv nv) w [tv] tags
 ownD:bF aO 7 47 (bb+1) (okD bb dv nv) w dv Gb
 ownN:eG w (bb+1) nv next
 ne:∀ k,dv.ownBlock=some k->nv.ownBlock≠some k
 old:∀ k,k<bb->k≠bs->w.heap[k]?=w0.heap[k]?
 str:Str w0 w
section
variable {bs bb:Nat}{id seq ext:Int}{tags:List ByteArray}{w0 w w' w2:World}{tv dv nv:Value}{Gb:List az}{next:List Int}
theorem vy.Gj (h:vy bs bb id seq ext tags w0 tv dv nv Gb next w):bb<w.heap.size:=aq h.blk
theorem vy.dLt (h:vy bs bb id seq ext tags w0 tv dv nv Gb next w){k:Nat}(e:dv.ownBlock=some k):bb<k/\k<w.heap.size:=by
 have:=h.ownD.ge0 e;omega
theorem vy.nLt (h:vy bs bb id seq ext tags w0 tv dv nv Gb next w){k:Nat}(e:nv.ownBlock=some k):bb<k/\k<w.heap.size:=by
 have:=h.ownN.lt k e;omega
theorem vy.okNew (h:vy bs bb id seq ext tags w0 tv dv nv Gb next w){k:Nat}(hk:w.heap.size<=k):okD bb dv nv k:=⟨by have:=h.Gj;omega,fun e=>by have:=h.dLt e;omega,fun e=>by have:=h.nLt e;omega⟩
theorem vy.keep (h:vy bs bb id seq ext tags w0 tv dv nv Gb next w)(hst:Str w w')(hs:Src w' bs)(hz:w.heap.size<=w'.heap.size)(hk:∀ k,k<w.heap.size->k≠bs->w'.heap[k]?=w.heap[k]?):vy bs bb id seq ext tags w0 tv dv nv Gb next w':=by
 have hl:=h.lt;have hb:=h.Gj;have hm:Mv (okD bb dv nv) (okD bb dv nv) w w':=⟨hz,fun b hb ho=>⟨ho,hk b hb (by have:=ho.1;omega)⟩⟩;refine ⟨hs,hl,(hk bb hb (by omega)).trans h.blk,(ck.moves aF.moves).mv hm h.rt,?_,aC h.ownN fun k e=>hk k (h.nLt e).2 (by have:=(h.nLt e).1;omega),h.ne,fun k h1 h2=>(hk k (by omega) h2).trans (h.old k h1 h2),h.str.trans hst⟩;have mb:=fun k e=>h.dLt (k:=k) e;obtain ⟨cs,ho,hf⟩:=h.ownD;exact ⟨cs,aC ho fun k e=>hk k (mb k e).2 (by have:=(mb k e).1;omega),Flat.moves aO.moves hm _ _ hf⟩
theorem vy.read (h:vy bs bb id seq ext tags w0 tv dv nv Gb next w)(hs:Src w' bs)(hm:cR (fun i=>i=bs) w w'):vy bs bb id seq ext tags w0 tv dv nv Gb next w':=h.keep hm.str hs hm.size fun k hk hn=>hm.block k hk hn
theorem vy.below (h:vy bs bb id seq ext tags w0 tv dv nv Gb next w)(hb:Below w.heap.size w w'):vy bs bb id seq ext tags w0 tv dv nv Gb next w' :=
 h.keep (ow hb) (h.src.keep fun i hi=>hb.block i (by have:=h.lt;have:=h.Gj;omega)) hb.size fun k hk _=>hb.block k hk
theorem vy.pushD {D:az}{u:List Value}{gb cap:Nat}(h:vy bs bb id seq ext tags w0 tv dv nv Gb next w)
  (hp:jN aO 7 47 (bb+1) (fun b=>okD bb dv nv b/\b<w.heap.size) w dv Gb D u gb cap w2) :
  vy bs bb id seq ext tags w0 tv (.slice (some ⟨gb,0,none⟩) (Gb.length+1) cap) nv (Gb++[D]) next (w2.setCell ⟨bb,7,none⟩ (.slice (some ⟨gb,0,none⟩) (Gb.length+1) cap))/\w2.heap[bb]?=w.heap[bb]?:=by
 have hl:=h.lt;have hb:=h.Gj;have hz:=hp.grown.size;have kw:∀ k,k<w.heap.size->dv.ownBlock≠some k->w2.heap[k]?=w.heap[k]?:=fun k h1 h2=>hp.grown.block k h1 fun e=>h2 e.symm;have pC:w2.heap[bb]?=w.heap[bb]?:=kw bb hb fun e=>by have:=h.dLt e;omega
 have kk:∀ k,k≠bb->(w2.setCell ⟨bb,7,none⟩ (.slice (some ⟨gb,0,none⟩) (Gb.length+1) cap)).heap[k]?=w2.heap[k]?:=fun k e=>bw _ _ _ _ e;have hzz:(w2.setCell ⟨bb,7,none⟩ (.slice (some ⟨gb,0,none⟩) (Gb.length+1) cap)).heap.size=w2.heap.size:=by simp [World.setCell]
 have hg:=hp.own.ge0 (k:=gb) rfl
 have OH:∀ b,okD bb dv nv b->b<w.heap.size->b≠gb:=fun b h1 h2 e=>by
  subst e;rcases hp.at' with q | q
  ·exact h1.2.1 q
  ·omega
 have gw:∀ b,okD bb dv nv b->b<w.heap.size->okD bb (.slice (some ⟨gb,0,none⟩) (Gb.length+1) cap) nv b:=fun b h1 h2=>⟨h1.1,fun e=>OH b h1 h2 (by injection e with e;exact e.symm),h1.2.2⟩
 have old:∀ k,k<bb->(w2.setCell ⟨bb,7,none⟩ (.slice (some ⟨gb,0,none⟩) (Gb.length+1) cap)).heap[k]?=w.heap[k]?:=fun k hk=>(kk k (by omega)).trans (kw k (by omega) fun e=>by have:=h.dLt e;omega);refine ⟨⟨h.src.keep fun i hi=>old i (by omega),hl,?_,?_,?_,?_,?_,fun k h1 h2=>(old k h1).trans (h.old k h1 h2),(h.str.trans (nQ hp.grown)).trans ⟨rfl,rfl,rfl⟩⟩,pC⟩
 ·exact block_setCell (i:=7) _ (pC.trans h.blk)
 ·exact (ck.moves aF.moves).mv ⟨by omega,fun b h1 h2=>⟨gw b h2 h1,(kk b (by have:=h2.1;omega)).trans (kw b h1 h2.2.1)⟩⟩ h.rt
 ·obtain ⟨cs,ho,hf⟩:=hp.own
  exact ⟨cs,aC ho fun k e=>kk k (by have:=(ho.lt k e).1;omega),Flat.moves aO.moves ⟨by omega,fun b _ h2=>⟨gw b h2.1 h2.2,kk b (by have:=h2.1.1;omega)⟩⟩ _ _ hf⟩
 ·exact aC h.ownN fun k e=>(kk k (by have:=(h.nLt e).1;omega)).trans (kw k (h.nLt e).2 fun e'=>h.ne k e' e)
 ·intro k e e'
  obtain rfl:gb=k:=by injection e
  rcases hp.at' with q | q
  ·exact h.ne gb q e'
  ·have:=(h.nLt e').2;omega
theorem vy.pushN {x:Int}{u:List Value}{gb cap:Nat}(h:vy bs bb id seq ext tags w0 tv dv nv Gb next w)
  (hp:jN cO 1 3 (bb+1) (fun _=>False) w nv next x u gb cap w2) :
  vy bs bb id seq ext tags w0 tv dv (.slice (some ⟨gb,0,none⟩) (next.length+1) cap) Gb (next++[x]) (w2.setCell ⟨bb,10,none⟩ (.slice (some ⟨gb,0,none⟩) (next.length+1) cap))/\w2.heap[bb]?=w.heap[bb]?:=by
 have hl:=h.lt;have hb:=h.Gj;have hz:=hp.grown.size;have kw:∀ k,k<w.heap.size->nv.ownBlock≠some k->w2.heap[k]?=w.heap[k]?:=fun k h1 h2=>hp.grown.block k h1 fun e=>h2 e.symm;have pC:w2.heap[bb]?=w.heap[bb]?:=kw bb hb fun e=>by have:=h.nLt e;omega
 have kk:∀ k,k≠bb->(w2.setCell ⟨bb,10,none⟩ (.slice (some ⟨gb,0,none⟩) (next.length+1) cap)).heap[k]?=w2.heap[k]?:=fun k e=>bw _ _ _ _ e;have hzz:(w2.setCell ⟨bb,10,none⟩ (.slice (some ⟨gb,0,none⟩) (next.length+1) cap)).heap.size=w2.heap.size:=by simp [World.setCell]
 have hg:=hp.own.ge0 (k:=gb) rfl
 have OH:∀ b,nv.ownBlock≠some b->b<w.heap.size->b≠gb:=fun b h1 h2 e=>by
  subst e;rcases hp.at' with q | q
  ·exact h1 q
  ·omega
 have gw:∀ b,okD bb dv nv b->b<w.heap.size->okD bb dv (.slice (some ⟨gb,0,none⟩) (next.length+1) cap) b:=fun b h1 h2=>⟨h1.1,h1.2.1,fun e=>OH b h1.2.2 h2 (by injection e with e;exact e.symm)⟩
 have old:∀ k,k<bb->(w2.setCell ⟨bb,10,none⟩ (.slice (some ⟨gb,0,none⟩) (next.length+1) cap)).heap[k]?=w.heap[k]?:=fun k hk=>(kk k (by omega)).trans (kw k (by omega) fun e=>by have:=h.nLt e;omega);have hm:Mv (okD bb dv nv) (okD bb dv (.slice (some ⟨gb,0,none⟩) (next.length+1) cap)) w (w2.setCell ⟨bb,10,none⟩ (.slice (some ⟨gb,0,none⟩) (next.length+1) cap)):=⟨by omega,fun b h1 h2=>⟨gw b h2 h1,(kk b (by have:=h2.1;omega)).trans (kw b h1 h2.2.2)⟩⟩;refine ⟨⟨h.src.keep fun i hi=>old i (by omega),hl,?_,(ck.moves aF.moves).mv hm h.rt,?_,?_,?_,fun k h1 h2=>(old k h1).trans (h.old k h1 h2),(h.str.trans (nQ hp.grown)).trans ⟨rfl,rfl,rfl⟩⟩,pC⟩
 ·exact block_setCell (i:=10) _ (pC.trans h.blk)
 ·have mb:=fun k e=>h.dLt (k:=k) e
  obtain ⟨cs,ho,hf⟩:=h.ownD;exact ⟨cs,aC ho fun k e=>(kk k (by have:=(mb k e).1;omega)).trans (kw k (mb k e).2 (h.ne k e)),Flat.moves aO.moves hm _ _ hf⟩
 ·have ho:=hp.own.ownI
  exact aC ho fun k e=>kk k (by have:=fh ho k e;omega)
 ·intro k e e'
  obtain rfl:gb=k:=by injection e'
  rcases hp.at' with q | q
  ·exact h.ne gb e q
  ·have:=(h.dLt e).2;omega
end
noncomputable def nA (n:Nat):Code:=((Tryz.f16.body.bind (kX n)).getD .skip)
theorem Dp:(prog.info? 47).map (fun i=>(i.zero,i.size,i.bytes))=some (some (.agg #[.string ⟨#[]⟩,.int .u64 0,.int .i64 0,.int .i64 0,.bool false,.bool false,.slice none 0 0]),7,72):=by kernel_rfl
theorem yY {bs bb M:Nat}{id seq ext:Int}{tags:List ByteArray}{w0 w:World}{tv dv nv:Value}{Gb:List az}{next:List Int}(D0:vy bs bb id seq ext tags w0 tv dv nv Gb next w)(hM:Gb.length=M)(hM3:M<=3)
  (c1 c2 c5 c7 c8 c9 c10 c11 c12 c13 c14 c15 c16 c17 c18 c19 c20 c21 c22 c23 c24 c25 c26 c27 c28 c29 c30 c31 c32 c33 c34 c35 c36 c37 c38 c39 c40 c41 c42 c43 c44 c45 c46 c47 c48 c49 c50 c51 c52 c53 c54 c55 c56 c57 c58 c59 c60 c61 c62 c63 c64 c65 c66 c67 c68 c69 c70 c71 c72 c73 c74 c75 c76 c77 c78 c79 c80 c81 c82 c83 c84 c85 c86 c87 c88 c89 c90 c91 c92 c93 c94 c95 c96 c97 c98 c99 c100 c101 c102 c103 c104 c105 c106 c107 c108 c109 c110 c111 c112 c113 c114 c115 c116 c117 c118 c119 c120 c121 c122 c123 c124 c125 c126 c127 c128 c129 c130 c131 c132 c133 c134 c135 c136 c137 c138 c139 c140 c141 c142 c143 c144 c145 c146 c147 c148 c149 c150 c151 c152 c153 c154 c155 c156 c157 c158 c159 c160 c161 c162 c163 c164 c165 c166 c167 c168 c169 c170 c171 c172 c173 c174 c175 c176 c177 c178 c179 c180 c181:Value) (K:Act->World->Prop) (Q:Exit->Act->World->Prop) (hQ':∀ c (a:Act) (t t':Array Value) w,Q (.panic c) { a with tmps:=t } w->Q (.panic c) { a with tmps:=t' } w)
  (HK:Hid (∀ (Xs:Value) (D:az) (w':World) (u41 u42 u43 u44 u45 u46 u47 u48 u49 u50 u51 u52 u53 u54 u55 u56 u57 u58 u59 u60 u61 u62 u63 u64 u65 u66 u67 u68 u69 u70 u71 u72 u73 u74 u75:Value),rH M D->vy bs bb id seq ext tags w0 tv Xs nv (Gb++[D]) next w'->K ⟨#[.pointer (some ⟨bs,0,none⟩),c1,c2,.pointer (some ⟨bb,0,none⟩),.int .i64 8,c5,.int .i64 (M:Int),c7,c8,c9,c10,c11,c12,c13,c14,c15,c16,c17,c18,c19,c20,c21,c22,c23,c24,c25,c26,c27,c28,c29,c30,c31,c32,c33,c34,c35,c36,c37,c38,c39,c40,u41,u42,u43,u44,u45,u46,u47,u48,u49,u50,u51,u52,u53,u54,u55,u56,u57,u58,u59,u60,u61,u62,u63,u64,u65,u66,u67,u68,u69,u70,u71,u72,u73,u74,u75,c76,c77,c78,c79,c80,c81,c82,c83,c84,c85,c86,c87,c88,c89,c90,c91,c92,c93,c94,c95,c96,c97,c98,c99,c100,c101,c102,c103,c104,c105,c106,c107,c108,c109,c110,c111,c112,c113,c114,c115,c116,c117,c118,c119,c120,c121,c122,c123,c124,c125,c126,c127,c128,c129,c130,c131,c132,c133,c134,c135,c136,c137,c138,c139,c140,c141,c142,c143,c144,c145,c146,c147,c148,c149,c150,c151,c152,c153,c154,c155,c156,c157,c158,c159,c160,c161,c162,c163,c164,c165,c166,c167,c168,c169,c170,c171,c172,c173,c174,c175,c176,c177,c178,c179,c180,c181],[]⟩ w')) :
  Code.wp prog (nA 8) (Exit.then K Q) ⟨#[.pointer (some ⟨bs,0,none⟩),c1,c2,.pointer (some ⟨bb,0,none⟩),.int .i64 8,c5,.int .i64 (M:Int),c7,c8,c9,c10,c11,c12,c13,c14,c15,c16,c17,c18,c19,c20,c21,c22,c23,c24,c25,c26,c27,c28,c29,c30,c31,c32,c33,c34,c35,c36,c37,c38,c39,c40,c41,c42,c43,c44,c45,c46,c47,c48,c49,c50,c51,c52,c53,c54,c55,c56,c57,c58,c59,c60,c61,c62,c63,c64,c65,c66,c67,c68,c69,c70,c71,c72,c73,c74,c75,c76,c77,c78,c79,c80,c81,c82,c83,c84,c85,c86,c87,c88,c89,c90,c91,c92,c93,c94,c95,c96,c97,c98,c99,c100,c101,c102,c103,c104,c105,c106,c107,c108,c109,c110,c111,c112,c113,c114,c115,c116,c117,c118,c119,c120,c121,c122,c123,c124,c125,c126,c127,c128,c129,c130,c131,c132,c133,c134,c135,c136,c137,c138,c139,c140,c141,c142,c143,c144,c145,c146,c147,c148,c149,c150,c151,c152,c153,c154,c155,c156,c157,c158,c159,c160,c161,c162,c163,c164,c165,c166,c167,c168,c169,c170,c171,c172,c173,c174,c175,c176,c177,c178,c179,c180,c181],[]⟩ w:=by
 have hQ:∀ c (a:Act) (d:Tmp) (v:Value) w,Q (.panic c) (a.put (some d) v) w->Q (.panic c) a w:=fun c a d v w h=>hQ' c a _ _ w h;conv=>arg 2;whnf
 have hlt:=D0.lt;have cX:=D0.Gj;have hw1:IntKind.i64.wrap ((M:Int)+1)=(M:Int)+1:=dy _ (by omega);have hw2:IntKind.u64.wrap ((M:Int)+1)=(M:Int)+1:=IntWalk.u64_in _ (by omega)
 obtain ⟨dp,ir,Xt,hd1,hd2⟩:∃ p c,dv=.slice p M c/\M<=c/\c<=9223372036854775807:=by
  obtain ⟨p,c,e,h1,h2,_⟩:=D0.ownD.rd aO.moves (by decide) (ok':=fun _=>True) (fun _ _ _=>trivial) (fun _ _=>trivial);rw [hM] at e h1;exact ⟨p,c,by injection e,h1,h2⟩
 subst Xt;have z1:(0:Int)<=(M:Int):=by omega
 have z2:(M:Int)<4:=by omega
 have hc7:=cr D0.blk 7 _ rfl
 refine aL (fun w'=>w'.cell? ⟨bb,7,none⟩=some (.slice dp M ir)) 31 [0,1,2,3,4,7,11,12,13,14,15,18,21,24,27] (by kernel_rfl) hc7 (fun hHeld=>?_);refine gC hQ 0 ?_;try simp only [ak];refine gC hQ 1 ?_;try simp only [ak];refine gC hQ 2 ?_;try simp only [ak];refine gC hQ 3 ?_;try simp only [ak];refine gC hQ 4 ?_;try simp only [ak];refine gC hQ 7 ?_;try simp only [ak];refine gC hQ 11 ?_;try simp only [ak];refine gC hQ 12 ?_;try simp only [ak];refine gC hQ 13 ?_;try simp only [ak];refine gC hQ 14 ?_;try simp only [ak];refine gC hQ 15 ?_;try simp only [ak];refine gC hQ 18 ?_;try simp only [ak];refine gC hQ 21 ?_;try simp only [ak];refine gC hQ 24 ?_;try simp only [ak];refine gC hQ 27 ?_;try simp only [ak];refine cH hQ 5 hHeld ?_;try simp only [ak];have D1:=D0.below ((bj _ _).drew);have mA:w.drew.heap.size=w.heap.size:=rfl;have Xu:w.drew.cell? ⟨bb,7,none⟩=some (.slice dp M ir):=hc7;generalize hwd:w.drew=wd at *;clear hwd hc7 hHeld hw1 hw2 D0;have pB:=D1.Gj
 refine fE (idx:=[(6,47),(8,49),(9,50),(10,51),(16,57),(17,58),(19,60),(20,61),(22,63),(23,64),(25,66),(26,67),(28,69),(29,70),(30,71)]) (fun i=>[i])
  (fun i vs w'=>match i with
   | 6=>∃ b,vs 6=.slice (some ⟨b,0,none⟩) 4 4/\dS wd.heap.size 9 [.string ⟨#[48]⟩,.string ⟨#[49]⟩,.string ⟨#[50]⟩,.string ⟨#[51]⟩] b w'
   | 8=>∃ b,vs 8=.pointer (some ⟨b,M,none⟩)/\dS wd.heap.size 9 [.string ⟨#[48]⟩,.string ⟨#[49]⟩,.string ⟨#[50]⟩,.string ⟨#[51]⟩] b w'
   | 9=>vs 9=.string (digit M)
   | 10=>vs 10=.string (NI++digit M)
   | 16=>∃ v:Int,0<=v/\v<=8/\vs 16=.int .i64 v
   | 17=>∃ v:Int,8<=v/\v<=16/\vs 17=.int .i64 v
   | 19=>∃ b,vs 19=.slice (some ⟨b,0,none⟩) 5 5/\dS wd.heap.size 3 [.int .i64 0,.int .i64 4,.int .i64 12,.int .i64 30,.int .i64 60] b w'
   | 20=>∃ v:Int,v∈([0,4,12,30,60]:List Int)/\vs 20=.int .i64 v
   | 22=>∃ v:Int,vs 22=.int .i64 v
   | 23=>∃ c:Bool,vs 23=.bool c
   | 25=>∃ v:Int,vs 25=.int .i64 v
   | 26=>∃ c:Bool,vs 26=.bool c
   | 28=>∃ tp tc tl,vs 28=.slice tp (List.length tl) tc/\ck aF 1 (fun k=>wd.heap.size<=k) w' [.slice tp tl.length tc] tl/\List.Sublist tl iQ
   | 29=>∃ D tp tc,rH M D/\vs 29=.agg #[.string D.name,.int .u64 D.id,.int .i64 D.first,.int .i64 D.Gc,.bool D.closed,.bool D.missing,.slice tp D.tags.length tc]/\ck aF 1 (fun k=>wd.heap.size<=k) w' [.slice tp D.tags.length tc] D.tags
   | 30=>∃ D tp tc b,rH M D/\vs 30=.slice (some ⟨b,0,none⟩) 1 1/\dS wd.heap.size 47 [.string D.name,.int .u64 D.id,.int .i64 D.first,.int .i64 D.Gc,.bool D.closed,.bool D.missing,.slice tp D.tags.length tc] b w'/\ck aF 1 (fun k=>wd.heap.size<=k) w' [.slice tp D.tags.length tc] D.tags
   | _=>True)
  (fun _ w'=>Src w' bs/\cR (fun k=>k=bs) wd w') (fun _=>rS wd.heap.size) (by kernel_rfl) rfl ?cs ?st (fun c t t' w h=>hQ' c ⟨t,[]⟩ t t' w h) ?c0 ?ob ?fin
 case c0=>exact ⟨D1.src,cR.refl _ _⟩
 case cs=>exact fun d w' hC=>(hC.2.cell (p:=⟨bb,7,none⟩) pB (by show ¬ bb=bs;omega)).trans Xu
 case st =>
  intro p hp q _ _ vs us w1 w2 ha hF he;have C4:Mv (fun k=>wd.heap.size<=k) (fun k=>wd.heap.size<=k) w1 w2:=⟨he.1,fun b hb ho=>⟨ho,he.2 b ho hb⟩⟩;simp only [dr,cY,dg] at hp;rcases hp with rfl | rfl | rfl | rfl | rfl | rfl | rfl | rfl | rfl | rfl | rfl | rfl | rfl | rfl | rfl
  ·obtain ⟨b,e,hb⟩:=hF
   exact ⟨b,(ha 6 (cG ..)).trans e,hb.ev he⟩
  ·obtain ⟨b,e,hb⟩:=hF
   exact ⟨b,(ha 8 (cG ..)).trans e,hb.ev he⟩
  ·exact (ha 9 (cG ..)).trans hF
  ·exact (ha 10 (cG ..)).trans hF
  ·obtain ⟨v,h1,h2,e⟩:=hF
   exact ⟨v,h1,h2,(ha 16 (cG ..)).trans e⟩
  ·obtain ⟨v,h1,h2,e⟩:=hF
   exact ⟨v,h1,h2,(ha 17 (cG ..)).trans e⟩
  ·obtain ⟨b,e,hb⟩:=hF
   exact ⟨b,(ha 19 (cG ..)).trans e,hb.ev he⟩
  ·obtain ⟨v,h1,e⟩:=hF
   exact ⟨v,h1,(ha 20 (cG ..)).trans e⟩
  ·obtain ⟨v,e⟩:=hF
   exact ⟨v,(ha 22 (cG ..)).trans e⟩
  ·obtain ⟨v,e⟩:=hF
   exact ⟨v,(ha 23 (cG ..)).trans e⟩
  ·obtain ⟨v,e⟩:=hF
   exact ⟨v,(ha 25 (cG ..)).trans e⟩
  ·obtain ⟨v,e⟩:=hF
   exact ⟨v,(ha 26 (cG ..)).trans e⟩
  ·obtain ⟨tp,tc,tl,e,h1,h2⟩:=hF
   exact ⟨tp,tc,tl,(ha 28 (cG ..)).trans e,(ck.moves aF.moves).mv C4 h1,h2⟩
  ·obtain ⟨D,tp,tc,hd,e,h1⟩:=hF
   exact ⟨D,tp,tc,hd,(ha 29 (cG ..)).trans e,(ck.moves aF.moves).mv C4 h1⟩
  ·obtain ⟨D,tp,tc,b,hd,e,hb,h1⟩:=hF
   exact ⟨D,tp,tc,b,hd,(ha 30 (cG ..)).trans e,hb.ev he,(ck.moves aF.moves).mv C4 h1⟩
 case ob =>
  refine kA.cons (deps:=[]) rfl rfl (by kernel_rfl) (fun vs d w' h0 hC hF K1 hK1=>?_) ?_
  ·clear hF h0
   simp only [over,cq,Act.put];go_simp;refine hK1.o (.slice (some ⟨w'.heap.size,0,none⟩) 4 4) _ ⟨hC.1.keep fun k hk=>cj _ _ _ (by have:=hC.2.size;omega),hC.2.trans (G:=fun _=>False) (cR.of_below (ae _ _)) (fun _ f=>f.elim)⟩ (rS.alloc _ _ _) ⟨_,aw rfl,dS.new hC.2.size⟩ _ ?_;simp only [over,cq,aS]
  refine kA.cons (deps:=[(6,47)]) rfl rfl (by kernel_rfl) (fun vs d w' h0 hC hF K1 hK1=>?_) ?_
  ·have f6:=(hF (6,47) (by simp)).2
   clear hF h0;simp only [over,cq,cF,aS] at f6 ⊢;obtain ⟨b,e6,hb⟩:=f6;rw [e6];go_simp;refine hK1.o (.pointer (some ⟨b,M,none⟩)) _ hC (rS.refl _ _) (⟨b,aw rfl,hb⟩) _ ?_;simp only [over,cq,cF,aS,e6]
  refine kA.cons (deps:=[(8,49)]) rfl rfl (by kernel_rfl) (fun vs d w' h0 hC hF K1 hK1=>?_) ?_
  ·have f8:=(hF (8,49) (by simp)).2
   clear hF h0;simp only [over,cq,cF,aS] at f8 ⊢;obtain ⟨b,e8,hb⟩:=f8;rw [e8]
   have hcell:w'.cell? ⟨b,M,none⟩=some (.string (digit M)):=by
    simp only [World.cell?,hb.2];rcases (show M=0\/M=1\/M=2\/M=3 by omega) with rfl | rfl | rfl | rfl <;> rfl
   go_simp;refine hK1.o (.string (digit M)) _ hC (rS.refl _ _) (aw rfl) _ ?_;simp only [over,cq,cF,aS,e8]
  refine kA.cons (deps:=[(9,50)]) rfl rfl (by kernel_rfl) (fun vs d w' h0 hC hF K1 hK1=>?_) ?_
  ·have f9:=(hF (9,50) (by simp)).2
   clear hF h0;simp only [over,cq,cF,aS] at f9 ⊢;rw [f9];have QH:(digit M).size=1:=rfl;go_simp;refine hK1.o (.string (NI++digit M)) _ hC (rS.refl _ _) (aw rfl) _ ?_;simp only [over,cq,cF,aS,f9,NI]
  refine kA.cons (deps:=[]) rfl rfl (by kernel_rfl) (fun vs d w' h0 hC hF K1 hK1=>?_) ?_
  ·clear hF h0
   simp only [over,cq,Act.put];go_simp;refine (bY bs 9 w' (by omega) (by omega) hC.1).mono ?_;rintro e w3 ⟨v,rfl,hv1,hv2,hs,hm⟩;refine hK1.o (.int .i64 v) w3 ⟨hs,hC.2.trans hm fun _ h=>.inl h⟩ ⟨hm.size,fun k h1 h2=>hm.block k h2 (by show ¬ k=bs;omega)⟩ (⟨v,hv1,by omega,aw rfl⟩) _ ?_;simp only [over,cq,aS]
  refine kA.cons (deps:=[(16,57)]) rfl rfl (by kernel_rfl) (fun vs d w' h0 hC hF K1 hK1=>?_) ?_
  ·have f16:=(hF (16,57) (by simp)).2
   clear hF h0;simp only [over,cq,cF,aS] at f16 ⊢;obtain ⟨v,h1,h2,e16⟩:=f16;rw [e16];have hw3:IntKind.i64.wrap (8+v)=8+v:=dy _ (by omega);go_simp;refine hK1.o (.int .i64 (8+v)) _ hC (rS.refl _ _) (⟨8+v,by omega,by omega,aw rfl⟩) _ ?_;simp only [over,cq,cF,aS,e16]
  refine kA.cons (deps:=[]) rfl rfl (by kernel_rfl) (fun vs d w' h0 hC hF K1 hK1=>?_) ?_
  ·clear hF h0
   simp only [over,cq,Act.put];go_simp;refine hK1.o (.slice (some ⟨w'.heap.size,0,none⟩) 5 5) _ ⟨hC.1.keep fun k hk=>cj _ _ _ (by have:=hC.2.size;omega),hC.2.trans (G:=fun _=>False) (cR.of_below (ae _ _)) (fun _ f=>f.elim)⟩ (rS.alloc _ _ _) ⟨_,aw rfl,dS.new hC.2.size⟩ _ ?_;simp only [over,cq,aS]
  refine kA.cons (deps:=[(19,60)]) rfl rfl (by kernel_rfl) (fun vs d w' h0 hC hF K1 hK1=>?_) ?_
  ·have f19:=(hF (19,60) (by simp)).2
   clear hF h0;simp only [over,cq,cF,aS] at f19 ⊢;obtain ⟨b,e19,hb⟩:=f19;rw [e19];go_simp;refine (jD bs b 5 [0,4,12,30,60] w' (by simp) (by simp) (by simp) (by omega) (aq hb.2) (by have:=hb.1;omega) (fun i v hv=>by simp only [World.cell?,hb.2];match i,hv with | 0,hv=>simpa using hv | 1,hv=>simpa using hv | 2,hv=>simpa using hv | 3,hv=>simpa using hv | 4,hv=>simpa using hv) hC.1).mono ?_
   rintro e w3 ⟨v,rfl,hv,hs,hm⟩;refine hK1.o (.int .i64 v) w3 ⟨hs,hC.2.trans hm fun _ h=>.inl h⟩ ⟨hm.size,fun k h1 h2=>hm.block k h2 (by show ¬ k=bs;omega)⟩ ⟨v,hv,aw rfl⟩ _ ?_;simp only [over,cq,cF,aS,e19]
  refine kA.cons (deps:=[]) rfl rfl (by kernel_rfl) (fun vs d w' h0 hC hF K1 hK1=>?_) ?_
  ·clear hF h0
   simp only [over,cq,Act.put];go_simp;refine (bY bs 8 w' (by omega) (by omega) hC.1).mono ?_;rintro e w3 ⟨v,rfl,hv1,hv2,hs,hm⟩;refine hK1.o (.int .i64 v) w3 ⟨hs,hC.2.trans hm fun _ h=>.inl h⟩ ⟨hm.size,fun k h1 h2=>hm.block k h2 (by show ¬ k=bs;omega)⟩ (⟨v,aw rfl⟩) _ ?_;simp only [over,cq,aS]
  refine kA.cons (deps:=[(22,63)]) rfl rfl (by kernel_rfl) (fun vs d w' h0 hC hF K1 hK1=>?_) ?_
  ·have f22:=(hF (22,63) (by simp)).2
   clear hF h0;simp only [over,cq,cF,aS] at f22 ⊢;obtain ⟨v,e22⟩:=f22;rw [e22];go_simp;refine hK1.o (.bool (v == 0)) _ hC (rS.refl _ _) (⟨_,aw rfl⟩) _ ?_;simp only [over,cq,cF,aS,e22]
  refine kA.cons (deps:=[]) rfl rfl (by kernel_rfl) (fun vs d w' h0 hC hF K1 hK1=>?_) ?_
  ·clear hF h0
   simp only [over,cq,Act.put];go_simp;refine (bY bs 8 w' (by omega) (by omega) hC.1).mono ?_;rintro e w3 ⟨v,rfl,hv1,hv2,hs,hm⟩;refine hK1.o (.int .i64 v) w3 ⟨hs,hC.2.trans hm fun _ h=>.inl h⟩ ⟨hm.size,fun k h1 h2=>hm.block k h2 (by show ¬ k=bs;omega)⟩ (⟨v,aw rfl⟩) _ ?_;simp only [over,cq,aS]
  refine kA.cons (deps:=[(25,66)]) rfl rfl (by kernel_rfl) (fun vs d w' h0 hC hF K1 hK1=>?_) ?_
  ·have f25:=(hF (25,66) (by simp)).2
   clear hF h0;simp only [over,cq,cF,aS] at f25 ⊢;obtain ⟨v,e25⟩:=f25;rw [e25];go_simp;refine hK1.o (.bool (v == 0)) _ hC (rS.refl _ _) (⟨_,aw rfl⟩) _ ?_;simp only [over,cq,cF,aS,e25]
  refine kA.cons (deps:=[]) rfl rfl (by kernel_rfl) (fun vs d w' h0 hC hF K1 hK1=>?_) ?_
  ·clear hF h0
   simp only [over,cq,Act.put];go_simp;refine (qY bs w' hC.1).mono ?_;rintro e w3 ⟨v,tl,rfl,u9,kf,hs,hm⟩;have Xv:=kf;obtain ⟨tp,tc,hv,_⟩:=Xv;obtain rfl:v=.slice tp tl.length tc:=by injection hv
   refine hK1.o (.slice tp tl.length tc) w3 ⟨hs,hC.2.trans hm fun _ h=>.inl h⟩ ⟨hm.size,fun k h1 h2=>hm.block k h2 (by show ¬ k=bs;omega)⟩ ⟨tp,tc,tl,aw rfl,(ck.moves aF.moves).mv ⟨bk _,fun k _ h=>⟨cA hC.2.size h,rfl⟩⟩ kf,u9⟩ _ ?_;simp only [over,cq,aS]
  refine kA.cons (deps:=[(10,51),(17,58),(20,61),(23,64),(26,67),(28,69)]) rfl rfl (by kernel_rfl) (fun vs d w' h0 hC hF K1 hK1=>?_) ?_
  ·have f10:=(hF (10,51) (by simp)).2
   have f17:=(hF (17,58) (by simp)).2;have f20:=(hF (20,61) (by simp)).2;have f23:=(hF (23,64) (by simp)).2;have f26:=(hF (26,67) (by simp)).2;have f28:=(hF (28,69) (by simp)).2;clear hF h0;simp only [over,cq,cF,aS] at f10 f17 f20 f23 f26 f28 ⊢;obtain ⟨v17,p1,p2,e17⟩:=f17;obtain ⟨v20,p3,e20⟩:=f20;obtain ⟨b23,e23⟩:=f23;obtain ⟨b26,e26⟩:=f26;obtain ⟨tp,tc,tl,e28,t1,t2⟩:=f28;rw [f10,e17,e20,e23,e26,e28];go_simp;refine hK1.o (.agg #[.string (NI++digit M),.int .u64 ((M:Int)+1),.int .i64 v17,.int .i64 v20,.bool b23,.bool b26,.slice tp tl.length tc]) _ hC (rS.refl _ _) ⟨⟨NI++digit M,(M:Int)+1,v17,v20,b23,b26,tl⟩,tp,tc,⟨rfl,rfl,⟨p1,p2⟩,p3,t2⟩,aw rfl,t1⟩ _ ?_;simp only [over,cq,cF,aS,f10,e17,e20,e23,e26,e28]
  refine kA.cons (deps:=[(29,70)]) rfl rfl (by kernel_rfl) (fun vs d w' h0 hC hF K1 hK1=>?_) trivial
  ·have f29:=(hF (29,70) (by simp)).2
   clear hF h0;simp only [over,cq,cF,aS] at f29 ⊢;obtain ⟨D,tp,tc,hd,e29,t1⟩:=f29;rw [e29];go_simp;refine hK1.o (.slice (some ⟨w'.heap.size,0,none⟩) 1 1) _ ⟨hC.1.keep fun k hk=>cj _ _ _ (by have:=hC.2.size;omega),hC.2.trans (G:=fun _=>False) (cR.of_below (ae _ _)) (fun _ f=>f.elim)⟩ (rS.alloc _ _ _) ⟨D,tp,tc,w'.heap.size,hd,aw rfl,dS.new hC.2.size,(ck.moves aF.moves).mv ⟨by simp,fun k hk h=>⟨h,cj _ _ _ hk⟩⟩ t1⟩ _ ?_;simp only [over,cq,cF,aS,e29]
 case fin =>
  intro vs d w' hC hF;have f30:=(hF (30,71) (by simp)).2;clear hF;simp only [over,cq,cF,aS,cQ,cL] at f30 ⊢;obtain ⟨D,tp,tc,b,hD,e30,hb,t1⟩:=f30;rw [e30];generalize vs 6=z6;generalize vs 8=z8;generalize vs 9=z9;generalize vs 10=z10;generalize vs 16=z16;generalize vs 17=z17;generalize vs 19=z19;generalize vs 20=z20;generalize vs 22=z22;generalize vs 23=z23;generalize vs 25=z25;generalize vs 26=z26;generalize vs 28=z28;generalize vs 29=z29;clear e30;have D2:=D1.read hC.1 hC.2;have hb2:=D2.Gj;have hz2:=hC.2.size;have RV:aO (fun b=>okD bb (.slice dp M ir) nv b/\b<w'.heap.size) w' [.string D.name,.int .u64 D.id,.int .i64 D.first,.int .i64 D.Gc,.bool D.closed,.bool D.missing,.slice tp D.tags.length tc] D:=⟨_,rfl,(ck.moves aF.moves).mv ⟨bk _,fun k hk h=>⟨⟨D1.okNew h,hk⟩,rfl⟩⟩ t1⟩
  have HO:bF aO 7 47 (bb+1) (fun b=>okD bb (.slice dp M ir) nv b/\b<w'.heap.size) w' (.slice dp M ir) Gb:=by
   obtain ⟨cs,ho,hf⟩:=D2.ownD;exact ⟨cs,ho,Flat.moves aO.moves ⟨bk _,fun k hk h=>⟨⟨h,hk⟩,rfl⟩⟩ _ _ hf⟩
  obtain ⟨i0,hi,hz0,hz1,hz3⟩:=ei Dp;refine dX aO.moves underlying27 hi hz0 hz1 hz3 rfl (by decide) (by decide) rfl _ _ (by rfl) (bb+1) (fun b=>okD bb (.slice dp M ir) nv b/\b<w'.heap.size) (.slice dp M ir) Gb D (by rfl) HO b 1 [.string D.name,.int .u64 D.id,.int .i64 D.first,.int .i64 D.Gc,.bool D.closed,.bool D.missing,.slice tp D.tags.length tc] (by rfl) (by rfl) RV (by simp [Value.oneCell']) (fun j y hy=>?_) (by omega) (by omega) (fun k e ho=>ho.1.2.1 e) (fun gb cap w3 hp=>?_)
  ·simp only [World.cell?,hb.2]
   simpa using hy
  ·obtain ⟨D3,hx⟩:=D2.pushD hp
   have y7:w3.cell? ⟨bb,7,none⟩=some (.slice dp M ir):=by simp [World.cell?,hx,D2.blk]
   have yf:w3.frozen? ⟨bb,7,none⟩=false:=by simp [World.frozen?,hx,D2.blk]
   clear hp hx RV HO hi hz0 hz1 hz3 t1 hb Xu;simp only [aS];simp only [hM] at D3;go_wp2;exact HK.o _ D _ _ _ _ _ _ _ _ _ _ _ _ _ _ _ _ _ _ _ _ _ _ _ _ _ _ _ _ _ _ _ _ _ _ _ _ hD D3
end Go.Proofs.YtjdfihglehfelaaGreatDoor
