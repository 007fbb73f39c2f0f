/- Lemmas: MkSc, MkS. -/
import Derived.Test.YtaagglbgohjldaaGreatDoorQv31
import Derived.Test.YtaagglbgohjldaaGreatDoorQv35
set_option maxRecDepth 100000
set_option maxHeartbeats 32000000
set_option linter.all false
namespace Go.Proofs.YtaagglbgohjldaaGreatDoor
open Go.Proofs.Tryz
open Go.RowKit
theorem TdJ {p:Prop}(h:p:=by simp only [dE];omega):p:=h
theorem wN {X:Nat->Prop}{bs bb vb vc sb M:Nat}{nv:Value}{g:af}{next:List Int}{w:World}{vs:List ay}{name on:ByteArray}{mz n s:Int}(h:eW X w bs bb nv (.slice (some vb) (M+1) vc) g next)(hk:Ld g next)(hM:vs.length=M)(hg:g.F9=vs++[eD name mz false n on s])(hn:1<=n/\n<=4)(hT:w.cell? (vb,M*6+5)=some (.slice (some sb) 1 1))
  (c0 c1 c2 c4 c5 c6 c7 c8 c9 c10 c11 c12 c13 c14 c15 c16 c17 c18 c19 c20 c21 c22 c23 c24 c25 c26 c27 c28 c29 c30 c31 c32 c33 c34 c35 c36 c37 c38 c39 c40 c41 c42 c43 c44 c45 c46 c47 c48 c49 c50 c51 c52 c53 c54 c55 c56 c57 c58 c59 c60 c61 c62 c63 c64 c65 c66 c67 c68 c69 c70 c71 c72 c73 c74 c75 c76 c77 c78 c79 c80 c81 c82 c83 c84 c85 c86 c87 c88 c89 c90 c91 c92 c93 c94 c95 c96 c97 c98 c99 c100 c101 c102 c103 c104 c105 c106 c107 c108 c109 c110 c111 c112 c113 c114 c115 c116 c117 c118 c119 c120 c121 c122 c123 c124 c125 c126 c127 c128 c129 c130 c131 c132 c133 c134 c135 c136 c137 c138 c139 c140 c141 c142 c143 c144 c145 c146 c147 c148 c149 c150 c151 c152 c153 c154 c155 c156 c157 c158 c159 c160 c161 c162 c163 c164 c165 c166 c167 c168 c169 c170 c171 c172 c173 c174 c175 c176 c177 c178 c179 c180 c181:Value) (Q:Exit->Act->World->Prop) (hQ:∀ c (a:Act) (d:Tmp) (v:Value) w,Q (.panic c) (a.put (some d) v) w->Q (.panic c) a w)
  (HK:Hid (∀ (Gf:List aB) (ps:List (ByteArray × Int × Int)) (next':List Int) (w':World) (u122 u123 u124 u125 u126 u127 u128 u129 u130 u131 u132 u133 u134 u135 u136 u137 u138 u139 u140 u141 u142 u143 u144 u145 u146 u147 u148 u149 u150:Value),fB (eD name mz false n on s).Gf Gf->Gf.length<=3->fZ g.Gb next ps next'->List.Sublist ((Gf.drop 1).flatMap iG) ps->aH X bs bb nv (.slice (some vb) (M+1) vc) w w' nv (.slice (some vb) (M+1) vc) { g with F9:=vs++[⟨name,mz,false,false,[],Gf⟩] } next'->Q .normal ⟨#[c0,c1,c2,.pointer (some bb),c4,c5,c6,c7,c8,c9,c10,c11,c12,c13,c14,c15,c16,c17,c18,c19,c20,c21,c22,c23,c24,c25,c26,c27,c28,c29,c30,c31,c32,c33,c34,c35,c36,c37,c38,c39,c40,c41,c42,c43,c44,c45,c46,c47,c48,c49,c50,c51,c52,c53,c54,c55,c56,c57,c58,c59,c60,c61,c62,c63,c64,c65,c66,c67,c68,c69,c70,c71,c72,c73,c74,c75,c76,c77,c78,c79,c80,c81,c82,c83,c84,c85,c86,c87,c88,c89,c90,c91,c92,c93,c94,c95,c96,c97,c98,c99,c100,c101,c102,c103,c104,c105,c106,c107,c108,c109,c110,c111,c112,c113,c114,c115,c116,c117,c118,c119,c120,c121,u122,u123,u124,u125,u126,u127,u128,u129,u130,u131,u132,u133,u134,u135,u136,u137,u138,u139,u140,u141,u142,u143,u144,u145,u146,u147,u148,u149,u150,c151,c152,c153,c154,c155,c156,c157,c158,c159,c160,c161,c162,c163,c164,c165,c166,c167,c168,c169,c170,c171,c172,c173,c174,c175,c176,c177,c178,c179,c180,c181],[]⟩ w')) :
  Code.wp prog (nA 19) Q ⟨#[c0,c1,c2,.pointer (some bb),c4,c5,c6,c7,c8,c9,c10,c11,c12,c13,c14,c15,c16,c17,c18,c19,c20,c21,c22,c23,c24,c25,c26,c27,c28,c29,c30,c31,c32,c33,c34,c35,c36,c37,c38,c39,c40,c41,c42,c43,c44,c45,c46,c47,c48,c49,c50,c51,c52,c53,c54,c55,c56,c57,c58,c59,c60,c61,c62,c63,c64,c65,c66,c67,c68,c69,c70,c71,c72,c73,c74,c75,c76,c77,c78,c79,c80,c81,c82,c83,c84,c85,c86,c87,c88,c89,c90,c91,c92,c93,c94,c95,c96,c97,c98,c99,c100,c101,c102,c103,c104,c105,c106,c107,c108,c109,c110,c111,c112,c113,c114,c115,c116,c117,c118,c119,c120,c121,c122,c123,c124,c125,c126,c127,c128,c129,c130,c131,c132,c133,c134,c135,c136,c137,c138,c139,c140,c141,c142,c143,c144,c145,c146,c147,c148,c149,c150,c151,c152,c153,c154,c155,c156,c157,c158,c159,c160,c161,c162,c163,c164,c165,c166,c167,c168,c169,c170,c171,c172,c173,c174,c175,c176,c177,c178,c179,c180,c181],[]⟩ w:=by
 conv=>arg 2;whnf
 have hlt:=h.lt;have cX:=h.Gj;have mb:=hk.vl;have hM1:M<=99:=by rw [hg,cD,hM] at mb;simp at mb;omega
 clear mb;have hc8:=h.c8;have hle:(vs++[eD name mz false n on s]).length=M+1:=by simp [hM]
 obtain ⟨cl,ho,hf⟩:=h.ownV;rw [hg] at ho hf;rw [hle] at ho;have ij:M+1<=vc/\vc<=9223372036854775807:=by
  rcases ho.2 with ⟨e,_⟩ | ⟨g0,c0,cur,e,_,_,h1,h2,_⟩
  ·cases e
  injection e with _ _ e3;subst e3;exact ⟨h1,by unfold maxLen at h2;omega⟩
 have Q6:=ij.1;have ar5:=ij.2;clear ij;obtain ⟨c,u,rfl,hc,hu,hv⟩:=Flat.last vs cl hf;have hcl:=Flat.length _ _ hc;rw [hM] at hcl;obtain ⟨tv,sv,rfl,ht,hs⟩:=hv;obtain ⟨tp,tc,ht1,ht2,ht3,_⟩:=ht;obtain rfl:tv=.slice tp 0 tc:=by injection ht1
 have hcc:∀ (j:Nat) (z:Value),[.string name,.int .u64 mz,.bool false,.bool false,.slice tp 0 tc,sv][j]?=some z->w.cell? ⟨vb,M*6+j,none⟩=some z:=fun j z hz=>by
  have hj:j<6:=(List.getElem?_eq_some_iff.1 hz).1;rw [ho.cellAt (M*6+j) TcC,Cp TcC,hcl,Nat.add_sub_cancel_left];exact hz
 obtain ⟨q0,q1,q2,q3,q4,q5⟩:=sv6 hcc;obtain rfl:sv=.slice (some sb) 1 1:=by rw [hT] at q5;injection q5 with q5;exact q5.symm
 have HT:Hid (iL bC 11 (okB X bb nv (.slice (some vb) (M+1) vc)) w (.slice (some sb) 1 1) [dE n on s]):=by
  obtain ⟨p,c,e,_,_,h3⟩:=hs;obtain ⟨b,o,rfl,hb,gR,hcv⟩:=h3 (by simp [eD]);obtain ⟨rfl,rfl⟩:sb=b/\0=o:=by
   injection e with e;injection e with e;injection e with e;injection e with e1 e2;exact ⟨e1,e2⟩
  obtain ⟨u,hu,hv,hc⟩:=hcv 0 _ rfl;refine aa ⟨sb,u,rfl,hb,gR,Flat.one hu hv ?_,fun j y hy=>by simpa using hc j y hy,TcD⟩;obtain ⟨a,st,rfl,⟨_,_,ea,_⟩,⟨_,_,es',_⟩⟩:=hv;obtain rfl:=List.singleton_inj.1 ea;obtain rfl:=List.singleton_inj.1 es';simp [Value.oneCell']
 clear hcc hT hs ht1 hu hc hf ho hcl;refine aL (fun w'=>w'.cell? (Tac bb 8)=some (.slice (some vb) (M+1) vc)) 28 [0,1,2,3,5,6,7,8,12,13,14,15,16,18,19,20,21] TcE hc8 (fun hHeld=>?_);have hwM:IntKind.i64.wrap (M:Int)=(M:Int):=dy _ TcC;have z1:(0:Int)<=(M:Int):=by omega
 have z2:(M:Int)<(M:Int)+1:=by omega
 refine gC hQ 0 ?_;refine gC hQ 1 ?_;refine gC hQ 2 ?_;refine gC hQ 3 ?_;refine gC hQ 5 ?_;refine gC hQ 6 ?_;refine gC hQ 7 ?_;refine gC hQ 8 ?_;refine gC hQ 12 ?_;refine gC hQ 13 ?_;refine gC hQ 14 ?_;refine gC hQ 15 ?_;refine gC hQ 16 ?_;refine gC hQ 18 ?_;refine gC hQ 19 ?_;refine gC hQ 20 ?_;refine gC hQ 21 ?_;refine cH hQ 4 hHeld ?_;refine cH hQ 9 hHeld ?_;refine cH hQ 17 hHeld ?_;refine cH hQ 22 hHeld ?_;refine cH hQ 10 hHeld ?_;refine cH hQ 11 hHeld ?_;refine cH hQ 23 hHeld ?_;refine cH hQ 24 hHeld ?_;refine cH hQ 25 hHeld ?_;have h1:=h.below ((bj _ _).drew);have hwd0:w.drew.heap=w.heap:=rfl;have d0:w.drew.cell? (vb,M*6)=_:=q0;have d1:w.drew.cell? (vb,M*6+1)=_:=q1;have d2:w.drew.cell? (vb,M*6+2)=_:=q2;have d3:w.drew.cell? (vb,M*6+3)=_:=q3;have d4:w.drew.cell? (vb,M*6+4)=_:=q4;have d5:w.drew.cell? (vb,M*6+5)=_:=q5;refine lR 26 fun K1 hK1=>?_;go_simp;refine hK1.o _ _ hHeld ?_;clear hK1 K1 q0 q1 q2 q3 q4 q5 d0 d1 d2 d3 d4 d5;refine lR 27 fun K1 hK1=>?_;go_simp;have Rt:Hid (iL bC 11 (okB X bb nv (.slice (some vb) (M+1) vc)) w.drew (.slice (some sb) 1 1) [dE n on s]):=aa (HT.o.moves bC.moves ⟨bk _,fun _ _ q=>⟨q,rfl⟩⟩);generalize hwd:w.drew=wd at *;refine (CE X bs bb sb 0 tc tp nv _ g next wd h1 hk name mz false false (dE n on s) TdJ Rt.o).mono ?_;rintro e w6 ⟨sv,Gf,ps,next',rfl,Xw,GF,DB,u9,P6,kf⟩;refine hK1.o _ _ P6.bld.c8 ?_;clear hK1 K1 hHeld HT Rt;refine aP TcE rfl ?_;simp only [cQ,cL];have B2:=aa kf;obtain ⟨sp,sc,hsv,_⟩:=kf;obtain rfl:sv=.slice sp Gf.length sc:=by injection hsv
 clear hsv;obtain ⟨cl,ho,hf⟩:=P6.bld.ownV;rw [hg] at ho;rw [hle] at ho;have hll:=ho.1;have hcw:∀ j,j<6->∃ z,w6.cell? ⟨vb,M*6+j,none⟩=some z:=fun j hj=>by
  rw [ho.cellAt (M*6+j) TcC];exact aj cl (M*6+j) (by rw [hll];omega)
 have Yi:=ho.frozenAt;obtain ⟨z0,y0⟩:=hcw 0 TcC;obtain ⟨z1',y1⟩:=hcw 1 TcC;obtain ⟨z2',y2⟩:=hcw 2 TcC;obtain ⟨z3,y3⟩:=hcw 3 TcC;obtain ⟨z4,y4⟩:=hcw 4 TcC;obtain ⟨z5,y5⟩:=hcw 5 TcC;replace y0:w6.cell? (vb,M*6)=some z0:=y0;clear hcw ho hf hll;have P0:aH X bs bb nv (.slice (some vb) (M+1) vc) w wd nv (.slice (some vb) (M+1) vc) g next:=by rw [<- hwd];exact (aH.refl h).drewN 1
 have HP:=aa (P0.trans P6);clear P0 P6 h1;go_wp2;subst hM;exact HK.o Gf ps next' _ _ _ _ _ _ _ _ _ _ _ _ _ _ _ _ _ _ _ _ _ _ _ _ _ _ _ _ _ _ Xw GF DB u9 (HP.o.setLast hg ⟨_,_,rfl,⟨tp,tc,rfl,ht2,ht3,fun q=>absurd q TcD⟩,B2.o⟩ TcQ)
structure sU (g:af):Prop where
 ex:∃ (c:Nat) (g0 g1:af) (next:List Int),c<=4/\g0.name=vgT/\(0<=g0.id/\g0.id<=999)/\(0<=g0.seq/\g0.seq<=49)/\g0.Gd∈([1,2,4,8,16]:List Int)/\g0.next=0/\List.Sublist g0.tags iQ/\g0.F9=[]/\g0.history=[] /\
  (1<=g0.Gb.length/\g0.Gb.length<=4)/\(∀ (k:Nat) (D:az),g0.Gb[k]?=some D->rH k D)/\bZ c g0 (List.replicate g0.Gb.length 0) 0 g1 next/\g={ g1 with history:=g.history }/\g.history.length<=2/\∀ x∈g.history,∃ i:Nat,1<=i/\i<=2/\x=(BQ,(i:Int),(i:Int))
def uX (bs:Nat)(w:World)(e:Ending)(w':World):Prop :=
 ∃ (g:af) (t d v h:Value),e=.returned (.agg #[.string g.name,.int .u64 g.id,.int .i64 g.seq,.int .i64 g.Gd,.int .i64 g.next,t,d,v,h]) /\
  EU (fun b=>w.heap.size<=b) w' [.string g.name,.int .u64 g.id,.int .i64 g.seq,.int .i64 g.Gd,.int .i64 g.next,t,d,v,h] g/\sU g/\Src w' bs/\Str w w'/\w.heap.size<=w'.heap.size/\∀ k,k<w.heap.size->k≠bs->w'.heap[k]?=w.heap[k]?
def setN (w:World)(b o:Nat):List Value->World
 | []=>w
 | v :: l=>setN (w.setCell (b,o) v) b (o+1) l
theorem nY {b k:Nat}(h:k≠b):∀ (l:List Value) (w:World) (o:Nat),(setN w b o l).heap[k]?=w.heap[k]?
 | [],_,_=>rfl
 | v :: l,w,o=>(nY h l _ _).trans (bw w ⟨b,o,none⟩ v k h)
theorem og (b:Nat):∀ (l:List Value) (w:World) (o:Nat),(setN w b o l).heap.size=w.heap.size
 | [],_,_=>rfl
 | v :: l,w,o=>(og b l _ _).trans TcR
theorem ql (b:Nat):∀ (l:List Value) (w:World) (o:Nat),Str w (setN w b o l)
 | [],w,_=>Str.refl w
 | v :: l,w,o=>Str.trans (b:=w.setCell (b,o) v) ⟨rfl,rfl,rfl⟩ (ql b l _ _)
def Ff (cs:Array Value)(o:Nat):List Value->Array Value
 | []=>cs
 | v :: l=>Ff (cs.setIfInBounds o v) (o+1) l
theorem wO {b:Nat}{t:TypeId}:∀ (l:List Value) (w:World) (o:Nat) (cs:Array Value),w.heap[b]?=some (.cells cs t (0,0))->(setN w b o l).heap[b]?=some (.cells (Ff cs o l) t (0,0))
 | [],_,_,_,h=>h
 | v :: l,_w,o,_cs,h=>wO l _ _ _ (block_setCell (i:=o) v h)
def TaA (x0:Option Addr):Tab #[.pointer x0,.string ⟨#[]⟩,.int .u64 0,.int .i64 0,.int .i64 0,.int .i64 0,.slice none 0 0,.slice none 0 0,.slice none 0 0,.slice none 0 0,.slice none 0 0]:=⟨⟩
structure pJ (bs R:Nat)(w0 W:World):Prop where
 src:Src W bs
 lt:bs<R
 blk:W.heap[R+1]?=some (.cells (TaA (some ⟨bs,0,none⟩)) 60 (0,0))
 old:∀ k,k<R+1->k≠bs->W.heap[k]?=w0.heap[k]?
 str:Str w0 W
section
variable {bs R:Nat}{w0 W W':World}
theorem pJ.keep (h:pJ bs R w0 W)(hst:Str W W')(hs:Src W' bs)(hk:∀ k,k<W.heap.size->k≠bs->W'.heap[k]?=W.heap[k]?):pJ bs R w0 W':=by
 have hl:=h.lt;have hb:=aq h.blk;exact ⟨hs,hl,(hk _ hb TcC).trans h.blk,fun k h1 h2=>(hk k TcC h2).trans (h.old k h1 h2),h.str.trans hst⟩
theorem pJ.read (h:pJ bs R w0 W)(hs:Src W' bs)(hm:cR (fun i=>i=bs) W W'):pJ bs R w0 W':=h.keep hm.str hs fun k h1 h2=>hm.block k h1 h2
theorem pJ.below (h:pJ bs R w0 W)(hb:Below W.heap.size W W'):pJ bs R w0 W':=h.keep (ow hb) (h.src.keep fun i hi=>hb.block i (by have:=h.lt;have:=aq h.blk;omega)) fun k h1 _=>hb.block k h1
theorem pJ.dst {id seq ext:Int}{tags:List ByteArray}{tv:Value}(h:pJ bs R w0 W)(ht:ck aF 1 (fun k=>R+1<k) W [tv] tags) :
  vy bs (R+1) id seq ext tags w0 tv (.slice none 0 0) (.slice none 0 0) [] [] (setN W (R+1) 1 [(.string vgT),(.int .u64 id),(.int .i64 seq),(.int .i64 ext),(.int .i64 0),tv,(.slice none 0 0),(.slice none 0 0),(.slice none 0 0)]):=by
 have hl:=h.lt;have kk:=fun k e=>nY (b:=R+1) (k:=k) e [(.string vgT),(.int .u64 id),(.int .i64 seq),(.int .i64 ext),(.int .i64 0),tv,(.slice none 0 0),(.slice none 0 0),(.slice none 0 0)] W 1;have hz:=og (R+1) [(.string vgT),(.int .u64 id),(.int .i64 seq),(.int .i64 ext),(.int .i64 0),tv,(.slice none 0 0),(.slice none 0 0),(.slice none 0 0)] W 1;have hst:=ql (R+1) [(.string vgT),(.int .u64 id),(.int .i64 seq),(.int .i64 ext),(.int .i64 0),tv,(.slice none 0 0),(.slice none 0 0),(.slice none 0 0)] W 1;have hb:=wO [(.string vgT),(.int .u64 id),(.int .i64 seq),(.int .i64 ext),(.int .i64 0),tv,(.slice none 0 0),(.slice none 0 0),(.slice none 0 0)] W 1 _ h.blk;simp only [Ff,xT,List.set_cons_zero,List.set_cons_succ,Nat.reduceAdd] at hb;generalize setN W (R+1) 1 [(.string vgT),(.int .u64 id),(.int .i64 seq),(.int .i64 ext),(.int .i64 0),tv,(.slice none 0 0),(.slice none 0 0),(.slice none 0 0)]=V at *;exact ⟨h.src.keep fun i hi=>kk i TcC,TcC,hb,(ck.moves aF.moves).mv ⟨TcC,fun b _ q=>⟨⟨q,fun e=>Tc7,fun e=>Tc7⟩,kk b TcC⟩⟩ ht,⟨[],gS _ _ _ 7,rfl⟩,eG.nil _ _,fun k e=>Tc7,fun k h1 h2=>(kk k TcC).trans (h.old k h1 h2),h.str.trans hst⟩
end
theorem UR {p:Prop}(h:p):p:=h
def Taz :Tab #[.string ⟨#[97]⟩,.string ⟨#[98]⟩,.string ⟨#[99]⟩,.string ⟨#[100]⟩,.string ⟨#[101]⟩]:=⟨⟩
def Tat :Tab #[.string ⟨#[]⟩,.int .u64 0,.int .i64 0,.int .i64 0,.int .i64 0,.slice none 0 0,.slice none 0 0,.slice none 0 0,.slice none 0 0]:=⟨⟩
theorem Ca (bs:Nat)(w:World)(h:Src w bs):Calls prog 6 #[.pointer (some bs)] w (uX bs w):=by
 have gO:=h.lt;go_enter func6,ntmps6
 have P1:pJ bs w.heap.size (w.alloc (.cells Tat 31)) ((w.alloc (.cells Tat 31)).alloc (.cells (TaA (some ⟨bs,0,none⟩)) 60)):=by
  have hz:(w.alloc (.cells Tat 31)).heap.size=w.heap.size+1:=by simp
  refine ⟨h.keep fun i hi=>?_,gO,?_,fun k h1 _=>cj _ _ _ TcC,⟨rfl,rfl,rfl⟩⟩
  ·rw [cj _ _ _ TcC,cj _ _ _ TcC]
  have:=b9 (w.alloc (.cells Tat 31)) (.cells (TaA (some ⟨bs,0,none⟩)) 60);rw [hz] at this;exact this
 have HG0:=aa (b9 w (.cells Tat 31));go_wp2_with fail;refine (bY bs 1000 _ TcC TcC P1.src).mono ?_;rintro e w2 ⟨id,rfl,Xx,ae0,hs,hm⟩;have P2:=P1.read hs hm;clear hs hm P1;have hw1:IntKind.u64.wrap id=id:=IntWalk.u64_in _ TcC;have HSw:Hid (Str w (w.alloc (.cells Tat 31))):=aa ⟨rfl,rfl,rfl⟩;have Xy:Hid (∀ k,k<w.heap.size->(w.alloc (.cells Tat 31)).heap[k]?=w.heap[k]?):=aa fun k hk=>cj _ _ _ hk;generalize hR:w.heap.size=R at *;generalize hw0:w.alloc _=w0 at *;clear hw0
 go_wp2_with fail;refine (bY bs 50 _ TcC TcC P2.src).mono ?_;rintro e w3 ⟨seq,rfl,Xz,ae1,hs,hm⟩;have P3:=P2.read hs hm;clear hs hm P2;have P4:=P3.below (ae w3 (.cells #[.int .i64 1,.int .i64 2,.int .i64 4,.int .i64 8,.int .i64 16] 3));have UF:Hid (ig (w3.alloc (.cells #[.int .i64 1,.int .i64 2,.int .i64 4,.int .i64 8,.int .i64 16] 3)) w3.heap.size 0 [1,2,4,8,16]):=aa (mo w3 _ [1,2,4,8,16]);have hb3:=aq P3.blk;go_wp2_with fail;refine (jD bs w3.heap.size 5 [1,2,4,8,16] _ TcD TcD TcD TcC TcD TcC UF.o P4.src).mono ?_;rintro e w5 ⟨ext,rfl,ah9,hs,hm⟩;have P5:=P4.read hs hm;clear hs hm P3 P4 UF hb3;go_wp2_with fail;refine (qY bs _ P5.src).mono ?_;rintro e w6 ⟨tv,tags,rfl,u9,ew,hs,hm⟩;have XA:=ew;obtain ⟨tp,tc,Qd,_⟩:=XA;obtain rfl:tv=.slice tp tags.length tc:=by injection Qd
 clear Qd;have P6:=P5.read hs hm;have hb5:=aq P5.blk;have D1:=P6.dst (id:=id) (seq:=seq) (ext:=ext) (tags:=tags) (tv:=.slice tp tags.length tc) ((ck.moves aF.moves).mv ⟨bk _,fun b _ q=>⟨by have:w5.heap.size<=b:=q;omega,rfl⟩⟩ ew);have qL:=cr P6.blk;have y1:=qL 1 _ rfl;have y2:=qL 2 _ rfl;have y3:=qL 3 _ rfl;have y4:=qL 4 _ rfl;have y5:=qL 5 _ rfl;have y6:=qL 6 _ rfl;have y7:=qL 7 _ rfl;have y8:=qL 8 _ rfl;have y9:=qL 9 _ rfl;have yf:=sr P6.blk;clear qL hs hm P5 ew;have HD1:=aa D1;clear D1;have V4:=aa P6;clear P6;have ox:=aa u9;clear u9;have Ss:=aa ah9;clear ah9;go_wp2_with fail;have D1:vy bs (R+1) id seq ext tags w0 (.slice tp tags.length tc) (.slice none 0 0) (.slice none 0 0) [] [] (World.setCell (World.setCell (World.setCell (World.setCell (World.setCell (World.setCell (World.setCell (World.setCell (World.setCell w6 ⟨R+1,1,none⟩ (.string ⟨#[118,103]⟩)) ⟨R+1,2,none⟩ (.int .u64 id)) ⟨R+1,3,none⟩ (.int .i64 seq)) ⟨R+1,4,none⟩ (.int .i64 ext)) ⟨R+1,5,none⟩ (.int .i64 0)) ⟨R+1,6,none⟩ (.slice tp tags.length tc)) ⟨R+1,7,none⟩ (.slice none 0 0)) ⟨R+1,8,none⟩ (.slice none 0 0)) ⟨R+1,9,none⟩ (.slice none 0 0)):=HD1.o;generalize hW7:(World.setCell (World.setCell (World.setCell (World.setCell (World.setCell (World.setCell (World.setCell (World.setCell (World.setCell w6 ⟨R+1,1,none⟩ (.string ⟨#[118,103]⟩)) ⟨R+1,2,none⟩ (.int .u64 id)) ⟨R+1,3,none⟩ (.int .i64 seq)) ⟨R+1,4,none⟩ (.int .i64 ext)) ⟨R+1,5,none⟩ (.int .i64 0)) ⟨R+1,6,none⟩ (.slice tp tags.length tc)) ⟨R+1,7,none⟩ (.slice none 0 0)) ⟨R+1,8,none⟩ (.slice none 0 0)) ⟨R+1,9,none⟩ (.slice none 0 0))=W7 at *;clear hW7 HD1 V4 y1 y2 y3 y4 y5 y6 y7 y8 y9 yf hb5 hw1;refine (bO bs 1 4 _ TcC TcC TcC D1.src).mono ?_;rintro e w8 ⟨Zh,rfl,ae2,ae3,hs,hm⟩;have D2:=D1.read hs hm;clear hs hm D1;obtain ⟨nd,rfl⟩:∃ u:Nat,Zh=u:=⟨Zh.toNat,TcC⟩;have hRw:=D2.Gj;go_wp2
 go_loopw [5] (fun i wr=>∃ (c:Nat) (dv nv:Value) (Gb:List az),c+Gb.length=nd/\i=.int .i64 c/\(∀ (k:Nat) (D:az),Gb[k]?=some D->rH k D)/\vy bs (R+1) id seq ext tags w0 (.slice tp tags.length tc) dv nv Gb (List.replicate Gb.length 0) wr) (fun i _=>(intOf i).toNat)
 exact ⟨nd,_,_,[],TcD,rfl,(fun k D hD=>by simp at hD),D2⟩;obtain ⟨c,dv,nv,Gb,Xu,rfl,hdk,D⟩:=hrel;have Q8:=aa hdk;clear hdk;by_cases hc0:c=0
 ·subst hc0;have hd0:decide ((0:Int)<((0:Nat):Int))=false:=by simp
  have CD:Gb.length=nd:=by omega
  have hB2:eW (fun k=>k=wr.heap.size) (wr.alloc (.cells Taz 9)) bs (R+1) nv (.slice none 0 0) ⟨vgT,id,seq,ext,0,tags,Gb,[],[]⟩ (List.replicate Gb.length 0):=D.bld.fresh (ae _ _) (fun k hk=>.inr ⟨TcC,TcH⟩);have hold2:∀ k,k<R+1->k≠bs->(wr.alloc (.cells Taz 9)).heap[k]?=w0.heap[k]?:=fun k h1 h2=>(cj _ _ _ (by have:=D.Gj;omega)).trans (D.old k h1 h2);have ld:=aa (b9 wr (.cells Taz 9));have HO2:=aa hold2;clear hold2;have Ov:Str w0 (wr.alloc (.cells Taz 9)):=D.str.trans ⟨rfl,rfl,rfl⟩;have HS2:=aa Ov;clear Ov;have hlt2:=D.lt;clear D
  go_wp2_with fail;generalize hwA:wr.alloc _=wA at *;generalize hNB:wr.heap.size=NB at *;clear hwA hNB;refine (bY bs 5 _ TcC TcC hB2.src).mono ?_;rintro e w10 ⟨cv,rfl,hcv1,hcv2,hs,hm⟩;obtain ⟨c0,rfl⟩:∃ u:Nat,cv=u:=⟨cv.toNat,TcC⟩;have P10:aH (fun k=>k=NB) bs (R+1) nv (.slice none 0 0) wA w10 nv (.slice none 0 0) ⟨vgT,id,seq,ext,0,tags,Gb,[],[]⟩ (List.replicate Gb.length 0):=hB2.readPost hs hm;clear hs hm
  have hex:1<=ext/\ext<=16:=by
   have:=Ss.o;simp only [dr,cY,dg] at this;omega
  generalize hg0:(⟨vgT,id,seq,ext,0,tags,Gb,[],[]⟩:af)=g0 at *;have hgd:g0.Gb=Gb/\g0.Gd=ext/\g0.F9=[]/\g0.next=0:=by rw [<- hg0];exact ⟨rfl,rfl,rfl,rfl⟩
  have XB:=aa hg0;clear hg0;have ND:DOk g0.Gb (List.replicate Gb.length 0):=by
   rw [hgd.1];refine ⟨TcD,TcC,TcC,fun D hD=>?_,fun d m hm=>?_⟩
   ·obtain ⟨k,hk⟩:=fc hD;have:=(Q8.o k D hk).ext;simp only [dr,cY,dg] at this;omega
   have:=ct hm;rw [tM] at this;omega
  have HBD:Hid (∀ (i:Nat) (g:af) (next:List Int),bZ c0 g0 (List.replicate Gb.length 0) i g next->Zy c0 i g0 g next):=aa fun i g next q=>bZ.bd ⟨hgd.2.2.1,hgd.2.2.2⟩ (by rw [hgd.2.1];exact hex) ND q;have Zi:=aa hgd;clear hgd;clear ND
  go_wp2;go_loopw [8] (fun i wr=>∃ (c:Nat) (nv' pA:Value) (g:af) (next:List Int),i=.int .i64 c/\bZ c0 g0 (List.replicate Gb.length 0) c g next/\aH (fun k=>k=NB) bs (R+1) nv (.slice none 0 0) wA wr nv' pA g next) (fun i _=>(intOf i).toNat)
  exact ⟨c0,_,_,_,_,rfl,.nil,P10⟩;obtain ⟨c,nv',pA,g,next,rfl,ye,P⟩:=hrel;have bd:=HBD.o c g next ye;obtain ⟨s1,s2,s3,gx,s5,gd,s7⟩:=bd.same;clear s1 s2 s3 s5 s7;have b1:=bd.le;have b2:=bd.F9;have b3:=bd.nx1;have b4:=bd.nx2;have S7:DOk g.Gb next:=by rw [gd];exact bd.dk
  have hk:Ld g next:=⟨S7,b3,TcC,TcC⟩;have K2:g.Gb.length=nd:=by rw [gd,Zi.o.1];exact CD
  have TU:g.Gd=ext:=by rw [gx];exact Zi.o.2.1
  clear bd gx gd;have PS:=aa ye;clear ye;have XC:wr.heap[NB]?=some (.cells Taz 9 (0,0)):=(P.loc hB2 rfl).trans ld.o;by_cases hc0:c=0
  ·subst hc0;have hd1:decide ((0:Int)<((0:Nat):Int))=false:=by simp
   obtain ⟨tv1,dv1,H⟩:=(P.bld.fewer (Y:=fun _=>False) (fun _ f=>f.elim)).hst (w0:=w0) (fun k h1 h2=>(P.mod.block k (by have:=hB2.Gj;omega) (fun q=>by rcases q with q | q | q | q;exact h2 q;omega;have:=(hB2.nLt q).1;omega;cases q)).trans (HO2.o k h1 h2)) (HS2.o.trans P.mod.str);clear XC P P10 K2 TU;go_wp2_with fail;refine (bY bs 3 _ TcC TcC H.src).mono ?_;rintro e w20 ⟨hcv,rfl,hh1,Zj,hs,hm⟩;obtain ⟨hc,rfl⟩:∃ u:Nat,hcv=u:=⟨hcv.toNat,TcC⟩;have H2:=H.read hs hm;clear hs hm H;go_wp2
   go_loopw [11] (fun i wr=>∃ (c:Nat) (hv:Value) (hist:List (ByteArray × Int × Int)),c+hist.length=hc/\i=.int .i64 c/\(∀ x∈hist,∃ i:Nat,1<=i/\i<=2/\x=(BQ,(i:Int),(i:Int)))/\HSt bs (R+1) w0 g tv1 dv1 pA nv' hv hist wr) (fun i _=>(intOf i).toNat)
   exact ⟨hc,_,[],TcD,rfl,(fun x hx=>by cases hx),H2⟩;obtain ⟨c,hv,hist,hch,rfl,Zk,H⟩:=hrel;have Zl:=aa Zk;clear Zk;by_cases hc0:c=0
   ·subst hc0;have hd4:decide ((0:Int)<((0:Nat):Int))=false:=by simp
    obtain ⟨p1,a1,f1,_⟩:=UR H.rt;obtain rfl:=List.singleton_inj.1 f1;obtain ⟨p2,a2,f2,_⟩:=UR H.rd;obtain rfl:=List.singleton_inj.1 f2;obtain ⟨p3,a3,f3,_⟩:=UR H.rv;obtain rfl:=List.singleton_inj.1 f3;have hro:ck lF 3 (fun b=>R+1<b) wr [hv] hist:=H.own.rd lF.moves TcF (fun b _ q=>q.1) (fun b e=>(H.hLt e).1);obtain ⟨p4,a4,f4,_⟩:=UR hro;obtain rfl:=List.singleton_inj.1 f4;clear f1 f2 f3 f4;have qL:=cr H.blk;have y1:=qL 1 _ rfl;have y2:=qL 2 _ rfl;have y3:=qL 3 _ rfl;have y4:=qL 4 _ rfl;have y5:=qL 5 _ rfl;have y6:=qL 6 _ rfl;have y7:=qL 7 _ rfl;have y8:=qL 8 _ rfl;have y9:=qL 9 _ rfl;have hlt3:=H.lt;have XD:wr.heap[R]?=_:=(H.old R TcC TcC).trans HG0.o;have rL:=cr XD;obtain ⟨r0,r1,r2,r3,r4,r5,r6,r7,r8⟩:=xr rL;have rf:=sr XD;clear qL rL XD;have HH:=aa H;clear H;have XE:=aa hro;clear hro;go_wp2;refine eC (v:=.agg #[.string g.name,.int .u64 g.id,.int .i64 g.seq,.int .i64 g.Gd,.int .i64 g.next,.slice p1 g.tags.length a1,.slice p2 g.Gb.length a2,.slice p3 g.F9.length a3,.slice p4 hist.length a4]) (by simp [results,Tryz.results6,go_sem,r0,r1,r2,r3,r4,r5,r6,r7,r8]) rfl ?_;have kk:=fun k (e:k≠R)=>nY (b:=R) (k:=k) e [.string g.name,.int .u64 g.id,.int .i64 g.seq,.int .i64 g.Gd,.int .i64 g.next,.slice p1 g.tags.length a1,.slice p2 g.Gb.length a2,.slice p3 g.F9.length a3,.slice p4 hist.length a4] wr 0;have hst:=ql R [.string g.name,.int .u64 g.id,.int .i64 g.seq,.int .i64 g.Gd,.int .i64 g.next,.slice p1 g.tags.length a1,.slice p2 g.Gb.length a2,.slice p3 g.F9.length a3,.slice p4 hist.length a4] wr 0;have hz:=og R [.string g.name,.int .u64 g.id,.int .i64 g.seq,.int .i64 g.Gd,.int .i64 g.next,.slice p1 g.tags.length a1,.slice p2 g.Gb.length a2,.slice p3 g.F9.length a3,.slice p4 hist.length a4] wr 0;show uX bs w _ (setN wr R 0 [.string g.name,.int .u64 g.id,.int .i64 g.seq,.int .i64 g.Gd,.int .i64 g.next,.slice p1 g.tags.length a1,.slice p2 g.Gb.length a2,.slice p3 g.F9.length a3,.slice p4 hist.length a4]);generalize setN wr R 0 [.string g.name,.int .u64 g.id,.int .i64 g.seq,.int .i64 g.Gd,.int .i64 g.next,.slice p1 g.tags.length a1,.slice p2 g.Gb.length a2,.slice p3 g.F9.length a3,.slice p4 hist.length a4]=V at *;have H:=HH.o;have hbl:=H.Gj;have hm:Mv (Mm (R+1) (.slice p4 hist.length a4)) (fun b=>w.heap.size<=b) wr V:=⟨TcC,fun b _ q=>⟨by have:=q.1;omega,kk b (by have:=q.1;omega)⟩⟩;have hm':Mv (fun b=>R+1<b) (fun b=>w.heap.size<=b) wr V:=⟨TcC,fun b _ q=>⟨TcC,kk b TcC⟩⟩;have hg0:=XB.o;subst hg0;refine ⟨{ g with history:=hist },_,_,_,_,rfl,⟨_,_,_,_,rfl,(ck.moves aF.moves).mv hm H.rt,(ck.moves aO.moves).mv hm H.rd,(ck.moves aN.moves).mv hm H.rv,(ck.moves lF.moves).mv hm' XE.o⟩,⟨c0,_,g,next,TcC,rfl,⟨Xx,TcJ⟩,⟨Xz,TcJ⟩,Ss.o,rfl,ox.o,rfl,rfl,⟨TcJ,TcJ⟩,Q8.o,PS.o,rfl,TcJ,Zl.o⟩,H.src.keep fun i hi=>kk i TcC,(HSw.o.trans H.str).trans hst,TcC,fun k h1 h2=>?_⟩
    rw [kk k TcC,H.old k TcC h2];exact Xy.o k TcC
   have hd4:decide ((0:Int)<(c:Int))=true:=by simp;omega
   go_upto_region 25 with (fail);refine wG H TcC TcC _ (aa ?_);intro hv1 w21 u163 u164 u165 u166 u167 u168 u169 u170 u171 u172 u173 u174 u175 u176 u177 H3;clear H;have H4:=aa H3;clear H3;go_wp2;go_roundw
   case rel =>
    refine ⟨c - 1,hv1,hist++[(BQ,(c:Int),(c:Int))],TcH,TcS,fun x hx=>?_,H4.o⟩;rcases List.mem_append.1 hx with q | q
    ·exact Zl.o x q
    exact ⟨c,TcC,TcC,by simpa using q⟩
   simp [intOf];omega
  have hd1:decide ((0:Int)<(c:Int))=true:=by simp;omega
  have z1:(0:Int)<=(c:Int):=by omega
  have z2:(c:Int)<5:=by omega
  have hcl:wr.cell? (NB,c)=some (.string (letter c)):=by
   simp only [World.cell?,XC];rcases (show c=1\/c=2\/c=3\/c=4 by omega) with rfl | rfl | rfl | rfl <;> rfl
  clear XC;go_wp2_with fail;refine (bY bs 8 _ TcC TcC P.bld.src).mono ?_;rintro e w11 ⟨kv,rfl,Xo,Xp,hs,hm⟩;obtain ⟨k,rfl⟩:∃ u:Nat,kv=u:=⟨kv.toNat,TcC⟩;have P2:=P.read hs hm;clear hs hm P hcl
  by_cases hk3:k<3
  ·have hd2:decide ((k:Int)<3)=true:=by simp;omega
   obtain ⟨dp,ir,c7,l1,l2⟩:=P2.bld.c7;rw [K2] at c7 l1;go_wp2_with fail;refine (bY bs (nd:Int) _ TcC TcC P2.bld.src).mono ?_;rintro e w12 ⟨Zm,rfl,hdd1,hdd2,hs,hm⟩;obtain ⟨dd,rfl⟩:∃ u:Nat,Zm=u:=⟨Zm.toNat,TcC⟩;have P3:=P2.read hs hm;clear hs hm P2 c7
   go_wp2_with fail;refine (bO bs 1 4 _ TcC TcC TcC P3.bld.src).mono ?_;rintro e w13 ⟨n,rfl,hn1,hn2,hs,hm⟩;have P4:=P3.read hs hm;clear hs hm P3;go_wp2_with fail;refine (qw _ bs (R+1) nv' pA g next _ P4.bld hk (letter c) false dd n TcC hn1 TcC).mono ?_;rintro e w14 (⟨rfl,Q⟩ | ⟨on,s,next1,Ds,DB,rfl,Q,hT⟩)
   ·have Q2:=P4.trans Q;clear P4 Q;go_wp2;go_roundw;exact ⟨c - 1,_,_,_,_,TcS,PS.o.next TcC (.linF),Q2⟩;simp [intOf];omega
   have Q2:=P4.trans Q;clear P4;obtain ⟨vb,vc,sb,rfl,hcell⟩:=hT;have hk1:Ld { g with next:=g.next+1,F9:=g.F9++[eD (letter c) (oX g.id (g.next+1)) false n on s] } next1:=⟨DB.ok S7,TcJ,TcJ,TcH⟩
   have VN:=aa DB;clear DB;go_upto_region 19 with (fail);refine wN Q.bld hk1 rfl rfl ⟨hn1,hn2⟩ hcell _ _ _ _ _ _ _ _ _ _ _ _ _ _ _ _ _ _ _ _ _ _ _ _ _ _ _ _ _ _ _ _ _ _ _ _ _ _ _ _ _ _ _ _ _ _ _ _ _ _ _ _ _ _ _ _ _ _ _ _ _ _ _ _ _ _ _ _ _ _ _ _ _ _ _ _ _ _ _ _ _ _ _ _ _ _ _ _ _ _ _ _ _ _ _ _ _ _ _ _ _ _ _ _ _ _ _ _ _ _ _ _ _ _ _ _ _ _ _ _ _ _ _ _ _ _ _ _ _ _ _ _ _ _ _ _ _ _ _ _ _ _ _ _ _ _ _ _ _ _ _ _ _ _ _ _ _ _ _ _ _ _ _ _ _ _ _ _ _ _ _ _ _ _ _ _ _ _ _ _ _ _ (fun _ _ _ _ _ h=>h) (aa ?_);intro Gf ps next2 w15 u122 u123 u124 u125 u126 u127 u128 u129 u130 u131 u132 u133 u134 u135 u136 u137 u138 u139 u140 u141 u142 u143 u144 u145 u146 u147 u148 u149 u150 Xw GF XF u9 Q3;have Q4:=Q2.trans Q3;clear Q Q2 Q3 hcell;go_wp2;go_roundw;exact ⟨c - 1,_,_,_,_,TcS,PS.o.next TcC (.lin ⟨hn1,hn2⟩ VN.o Xw GF XF u9),Q4⟩;simp [intOf];omega
  have hd2:decide ((k:Int)<3)=false:=by simp;omega
  by_cases hk33:k=3
  ·subst hk33;go_wp2_with fail;refine (vX _ bs (R+1) nv' pA g next _ P2.bld hk (letter c)).mono ?_;rintro e w12 ⟨rfl,Q⟩;have HQ:=aa Q;clear Q;go_wp2;go_roundw
   case rel =>
    rcases HQ.o with ⟨ps,next1,DB,Q⟩ | ⟨k,n,al,next1,Ds,q1,q2,q3,q4,q5,q6,DB,Q⟩
    ·exact ⟨c - 1,_,_,_,_,TcS,PS.o.next TcC (.strF DB),P2.trans Q⟩
    exact ⟨c - 1,_,_,_,_,TcS,PS.o.next TcC (.str ⟨q1,q2⟩ ⟨q3,q4⟩ q5 q6 DB),P2.trans Q⟩
   simp [intOf];omega
  have hd3:((k:Int) == 3)=false:=by simp;omega
  obtain ⟨j,rfl⟩:∃ j:Nat,k=j+4:=⟨k - 4,TcC⟩
  obtain ⟨kind,UK,AK⟩:∃ kind:Int,([3,4,5,7]:List Int)[j]?=some kind/\(kind=3\/kind=4\/kind=5\/kind=7):=by
   rcases (show j=0\/j=1\/j=2\/j=3 by omega) with rfl | rfl | rfl | rfl
   ·exact ⟨3,rfl,TcC⟩
   ·exact ⟨4,rfl,TcC⟩
   ·exact ⟨5,rfl,TcC⟩
   exact ⟨7,rfl,TcC⟩
  have QO:(w11.alloc (.cells #[.int .i64 3,.int .i64 4,.int .i64 5,.int .i64 7] 3)).cell? (w11.heap.size,j)=some (.int .i64 kind):=by have q:=mo w11 3 [3,4,5,7] j kind UK;simpa using q
  have HKC:=aa UK;clear UK;have e4:((j+4:Nat):Int) - 4=(j:Int):=by omega
  have z3:(0:Int)<=(j:Int):=by omega
  have z4:(j:Int)<4:=by omega
  have P3:=P2.after (ae w11 (.cells #[.int .i64 3,.int .i64 4,.int .i64 5,.int .i64 7] 3));clear P2;go_wp2_with fail;refine (vO _ bs (R+1) nv' pA g next _ P3.bld hk (letter c) (by show (1:Nat)<=100;omega) kind AK TcC TcC TcC TcC).mono ?_;rintro e w12 ⟨rfl,Q⟩;have HQ:=aa Q;clear Q QO;go_wp2;go_roundw
  case rel =>
   rcases HQ.o with ⟨j1,GC,Ds,q1,Q⟩ | ⟨n,names,lengths,x,ps,vl,ro,tgs,k1,j1,tl,next1,Ds,q1,q2,q3,q4,q5,q6,q7,q8,q9,Q⟩
   ·exact ⟨c - 1,_,_,_,_,TcS,PS.o.next TcC (.compF q1),P3.trans Q⟩
   exact ⟨c - 1,_,_,_,_,TcS,PS.o.next TcC (.comp AK ⟨q1,q2⟩ q3 q4 q5 q6 q7 q8 q9),P3.trans Q⟩
  simp [intOf];omega
 have hd0:decide ((0:Int)<(c:Int))=true:=by simp;omega
 obtain ⟨dp,ir,Xt,hd1,hd2⟩:∃ p q,dv=.slice p Gb.length q/\Gb.length<=q/\q<=9223372036854775807:=by
  obtain ⟨p,q,e,h1,h2,_⟩:=D.ownD.rd aO.moves TcF (ok':=fun _=>True) (fun _ _ _=>trivial) (fun _ _=>trivial);exact ⟨p,q,by injection e,h1,h2⟩
 subst Xt;have hc7:=cr D.blk 7 _ rfl;generalize hM:Gb.length=M at *;go_upto_region 8 with (fail);clear hc7;refine yY D hM TcC _ _ _ _ _ _ _ _ _ _ _ _ _ _ _ _ _ _ _ _ _ _ _ _ _ _ _ _ _ _ _ _ _ _ _ _ _ _ _ _ _ _ _ _ _ _ _ _ _ _ _ _ _ _ _ _ _ _ _ _ _ _ _ _ _ _ _ _ _ _ _ _ _ _ _ _ _ _ _ _ _ _ _ _ _ _ _ _ _ _ _ _ _ _ _ _ _ _ _ _ _ _ _ _ _ _ _ _ _ _ _ _ _ _ _ _ _ _ _ _ _ _ _ _ _ _ _ _ _ _ _ _ _ _ _ _ _ _ _ _ _ _ _ _ _ _ _ _ _ _ _ _ _ _ _ _ _ _ _ _ _ _ _ _ _ _ _ _ _ _ _ _ _ _ _ _ _ _ _ _ (fun _ _ _ _ _ h=>h) (aa ?_);intro Xs D' w9 u41 u42 u43 u44 u45 u46 u47 u48 u49 u50 u51 u52 u53 u54 u55 u56 u57 u58 u59 u60 u61 u62 u63 u64 u65 u66 u67 u68 u69 u70 u71 u72 u73 u74 u75 hD' D9;clear D;go_upto_region 9 with (fail);refine yj D9 TcH _ (aa ?_);intro nv' w10 u76 u77 u78 u79 u80 u81 u82 u83 u84 D10;clear D9;have HD10:=aa D10;clear D10;go_wp2;go_roundw
 case rel =>
  have hle:(Gb++[D']).length=M+1:=by simp [hM]
  refine ⟨c - 1,Xs,nv',Gb++[D'],TcC,TcS,fun k E hE=>?_,?_⟩
  ·by_cases hk:k<M
   ·rw [Fo TcC] at hE;exact Q8.o k E hE
   have hk2:k=M:=by have:=(List.getElem?_eq_some_iff.1 hE).1;omega
   subst hk2;rw [<- hM,List.getElem?_concat_length] at hE;injection hE with hE;rw [<- hE];exact hD'
  rw [hle,List.replicate_succ'];exact HD10.o
 simp [intOf];omega
end Go.Proofs.YtaagglbgohjldaaGreatDoor
