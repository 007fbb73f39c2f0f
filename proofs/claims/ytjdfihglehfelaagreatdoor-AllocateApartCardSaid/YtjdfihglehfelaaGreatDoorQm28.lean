/- Lemmas: MkRa, MkRb. -/
import Derived.Test.YtjdfihglehfelaaGreatDoorQm06
import Derived.Test.YtjdfihglehfelaaGreatDoorQm11
set_option maxRecDepth 100000
set_option maxHeartbeats 32000000
set_option linter.all false
namespace Go.Proofs.YtjdfihglehfelaaGreatDoor
open Go.Proofs.Tryz
open Go.RowKit
variable {X:Nat->Prop}{bs bb Lv L:Nat}{nv vv sv:Value}{g:af}{next nx:List Int}{w0 w:World}{cs:Value->Array Value}{l0 Gf:List aB}{ps:List (ByteArray × Int × Int)}{xs:Array Value}{st n:Int}
theorem Tb2 {p:Prop}(h:p:=by
 have rf:=sr HA.o
 go_wp2
 exact HK.o A on s ok ps1 nx1 _ _ _ _ _ _ _ _ _ _ _ _ _ _ _ _ _ _ (oH HA.o _ _ _) hA3 HO.o (((M9.put hA1 hA2 Tcd 0 _).put hA1 hA2 Tcd 1 _).put hA1 hA2 Tcd 2 _ |>.drop NA) (fun k q=>by have:=Hn.o k q;rw [bw _ _ _ _ (show k≠A by omega),bw _ _ _ _ (show k≠A by omega),bw _ _ _ _ (show k≠A by omega)];exact HX.o k q)):p:=h
theorem TaT {p:Prop}(h:p:=by
 conv=>arg 2;whnf
 have c0:=M.m.post.bld.c0
 obtain ⟨dp,ir,c7,l1,l2⟩:=M.m.post.bld.c7
 have cX:=M.m.post.bld.Gj
 have gO:=M.m.post.bld.lt
 have sy:¬ bb=bs:=by omega
 have NA:=M.xl
 have dk:=M.m.took.ok hk.dk
 have hp:=dk.pos
 have hle:=dk.le
 refine kW (fun w'=>w'.cell? bb=some (.pointer (some bs))/\w'.cell? (Tab bb 7)=some (.slice dp g.Gb.length ir)) (fun i=>(decide (i<13)&&!([0,1,2,3,5,6,7,8,12]:List Nat).contains i)||i == 17) Tcf ⟨c0,c7⟩ (fun hHeld=>?_)
 refine gC hQ 0 ?_
 try simp only [ak]
 refine gC hQ 1 ?_
 try simp only [ak]
 refine gC hQ 2 ?_
 try simp only [ak]
 refine gC hQ 3 ?_
 try simp only [ak]
 refine gC hQ 5 ?_
 try simp only [ak]
 refine gC hQ 6 ?_
 try simp only [ak]
 refine gC hQ 7 ?_
 try simp only [ak]
 refine gC hQ 8 ?_
 try simp only [ak]
 refine gC hQ 12 ?_
 try simp only [ak]
 refine cH hQ 4 hHeld ?_
 try simp only [ak]
 refine cH hQ 9 hHeld ?_
 try simp only [ak]
 refine cH hQ 10 hHeld ?_
 try simp only [ak]
 have M7:=M.below ((bj _ _).drew)
 have pB:bb<w.drew.heap.size:=cX
 have HX:Hid (∀ k,X k->w.drew.heap[k]?=w.heap[k]?):=aa fun k _=>rfl;have NP:w.drew.cell? bb=_:=c0;have SQ:w.drew.cell? (Tab bb 7)=_:=c7;generalize hwd:w.drew=wd at *;clear hwd c0 c7 hHeld M;have HS:Hid (∀ w':World,w'.heap[bb]?=wd.heap[bb]?->w'.cell? bb=some (.pointer (some bs))/\w'.cell? (Tab bb 7)=some (.slice dp g.Gb.length ir)):=aa fun w' e=>⟨(cd (w:=wd) e).trans NP,(cd (w:=wd) e).trans SQ⟩;clear NP SQ;refine ja (i:=11) (j:=17) rfl rfl rfl rfl Tcf (fun K1 hK1=>?_) (fun K1 hK1=>?_)
 ·go_simp
  refine (bY bs (g.Gb.length:Int) _ Tcd Tcd M7.m.post.bld.src).mono ?_;rintro e w6 ⟨dv,rfl,PL,PM,PT,yr⟩;obtain ⟨dd,rfl⟩:∃ u:Nat,dv=u:=⟨dv.toNat,Tcd⟩;have M8:=M7.read PT yr;replace HX:Hid (∀ k,X k->w6.heap[k]?=w.heap[k]?):=aa fun k q=>((M7.m.post.bld.readPost PT yr).loc M7.m.post.bld (.inl q)).trans (HX.o k q);have E6:=aa (yr.block bb pB sy);have L5:=cC pB yr.size;refine hK1.o _ _ (fun _=>HS.o _ E6.o) ?_;clear hK1 K1 PT yr M7;refine ja (i:=13) (j:=17) rfl rfl rfl rfl Tcf (fun K1 hK1=>?_) (fun K1 hK1=>?_)
  ·go_simp
   refine (M8.area hk dd Tcd n hn1 Tcd).mono ?_;rintro e w7 ⟨on,s,ok,ps1,nx1,rfl,gw,M9,pC,hlc⟩;have HO:=aa gw;clear gw;replace HX:Hid (∀ k,X k->w7.heap[k]?=w.heap[k]?):=aa fun k q=>(hlc k q).trans (HX.o k q);have E7:=aa (pC.trans E6.o);have Kc:=M9.m.post.bld.Gj;refine hK1.o _ _ (fun q=>by simp at q) ?_;clear hK1 K1 M8 pC hlc;refine gC hQ 14 ?_;try simp only [ak];refine gC hQ 15 ?_;try simp only [ak];refine gC hQ 16 ?_;try simp only [ak];refine bS (i:=17) rfl rfl Tcf (fun K1 hK1=>?_);go_simp;have MA:=M9.fresh (.cells Tat 60);have HA:=aa (b9 w7 (.cells Tat 60));have hA1:=M9.m.hB;have hA2:sv.ownBlock≠some w7.heap.size:=fun e=>by have:=M9.m.svLt e;omega
   have hA3:L<w7.heap.size:=aq M9.lx;have Hn:Hid (∀ k,X k->k<w7.heap.size):=aa fun k q=>(M9.m.post.bld.xlt k (.inl q)).2;replace HX:Hid (∀ k,X k->(w7.alloc (.cells Tat 60)).heap[k]?=w.heap[k]?):=aa fun k q=>(cj _ _ _ (Hn.o k q)).trans (HX.o k q);refine hK1.o _ _ (fun _=>HS.o _ ((cj _ _ _ Kc).trans E7.o)) ?_;clear hK1 K1;have EA:=aa ((cj w7 (.cells Tat 60) _ Kc).trans E7.o);generalize DA:w7.alloc _=WA at *;generalize hA:w7.heap.size=A at *;clear DA hA;refine eB 18 (fun t ht=>by simp;omega) Tcf rfl ?_;simp only [cQ,cL];obtain ⟨r0,r1,r2⟩:=UN (cr HA.o)
   have rf:=sr HA.o
   go_wp2;exact HK.o A on s ok ps1 nx1 _ _ _ _ _ _ _ _ _ _ _ _ _ _ _ _ _ _ (oH HA.o _ _ _) hA3 HO.o (((MA.put hA1 hA2 Tcd 0 _).put hA1 hA2 Tcd 1 _).put hA1 hA2 Tcd 2 _ |>.drop NA) (fun k q=>by have:=Hn.o k q;rw [bw _ _ _ _ (show k≠A by omega),bw _ _ _ _ (show k≠A by omega),bw _ _ _ _ (show k≠A by omega)];exact HX.o k q)
  ·go_simp
   have MA:=M8.fresh (.cells Tat 60);have HA:=aa (b9 w6 (.cells Tat 60));have hA1:=M8.m.hB;have hA2:sv.ownBlock≠some w6.heap.size:=fun e=>by have:=M8.m.svLt e;omega
   have hA3:L<w6.heap.size:=aq M8.lx;have Hn:Hid (∀ k,X k->k<w6.heap.size):=aa fun k q=>(M8.m.post.bld.xlt k (.inl q)).2;replace HX:Hid (∀ k,X k->(w6.alloc (.cells Tat 60)).heap[k]?=w.heap[k]?):=aa fun k q=>(cj _ _ _ (Hn.o k q)).trans (HX.o k q);refine hK1.o _ _ (fun _=>HS.o _ ((cj _ _ _ L5).trans E6.o)) ?_;clear hK1 K1;have EA:=aa ((cj w6 (.cells Tat 60) _ L5).trans E6.o);generalize DA:w6.alloc _=WA at *;generalize hA:w6.heap.size=A at *;clear DA hA;refine bS (i:=13) rfl rfl Tcf (fun K1 hK1=>?_);go_simp;refine (MA.area hk dd Tcd n hn1 Tcd).mono ?_;rintro e w7 ⟨on,s,ok,ps1,nx1,rfl,gw,M9,pC,hlc⟩;have HO:=aa gw;clear gw;replace HX:Hid (∀ k,X k->w7.heap[k]?=w.heap[k]?):=aa fun k q=>(hlc k (.inl q)).trans (HX.o k q);replace HA:=aa ((hlc A (.inr rfl)).trans HA.o);refine hK1.o _ _ (fun q=>by simp at q) ?_;clear hK1 K1 pC hlc;refine gC hQ 14 ?_;try simp only [ak];refine gC hQ 15 ?_;try simp only [ak];refine gC hQ 16 ?_;try simp only [ak];refine eB 18 (fun t ht=>by simp;omega) Tcf rfl ?_;simp only [cQ,cL];obtain ⟨r0,r1,r2⟩:=UN (cr HA.o)
   exact Tb2
 ·go_simp
  have MA:=M7.fresh (.cells Tat 60);have HA:=aa (b9 wd (.cells Tat 60));have hA1:=M7.m.hB;have hA2:sv.ownBlock≠some wd.heap.size:=fun e=>by have:=M7.m.svLt e;omega
  have hA3:L<wd.heap.size:=aq M7.lx;have Hn:Hid (∀ k,X k->k<wd.heap.size):=aa fun k q=>(M7.m.post.bld.xlt k (.inl q)).2;replace HX:Hid (∀ k,X k->(wd.alloc (.cells Tat 60)).heap[k]?=w.heap[k]?):=aa fun k q=>(cj _ _ _ (Hn.o k q)).trans (HX.o k q);refine hK1.o _ _ (fun _=>HS.o _ (cj _ _ _ pB)) ?_;clear hK1 K1;have EA:=aa (cj wd (.cells Tat 60) _ pB);generalize DA:wd.alloc _=WA at *;generalize hA:wd.heap.size=A at *;clear DA hA;refine bS (i:=11) rfl rfl Tcf (fun K1 hK1=>?_);go_simp;refine (bY bs (g.Gb.length:Int) _ Tcd Tcd MA.m.post.bld.src).mono ?_;rintro e w6 ⟨dv,rfl,PL,PM,PT,yr⟩;obtain ⟨dd,rfl⟩:∃ u:Nat,dv=u:=⟨dv.toNat,Tcd⟩;have M8:=MA.read PT yr;replace HX:Hid (∀ k,X k->w6.heap[k]?=w.heap[k]?):=aa fun k q=>((MA.m.post.bld.readPost PT yr).loc MA.m.post.bld (.inl (.inl q))).trans (HX.o k q);have E6:=aa ((yr.block bb MA.m.post.bld.Gj sy).trans EA.o);replace HA:=aa (((MA.m.post.bld.readPost PT yr).loc MA.m.post.bld (.inl (.inr rfl))).trans HA.o);refine hK1.o _ _ (fun _=>HS.o _ E6.o) ?_;clear hK1 K1 PT yr MA EA;refine bS (i:=13) rfl rfl Tcf (fun K1 hK1=>?_);go_simp;refine (M8.area hk dd Tcd n hn1 Tcd).mono ?_;rintro e w7 ⟨on,s,ok,ps1,nx1,rfl,gw,M9,pC,hlc⟩;have HO:=aa gw;clear gw;replace HX:Hid (∀ k,X k->w7.heap[k]?=w.heap[k]?):=aa fun k q=>(hlc k (.inl q)).trans (HX.o k q);replace HA:=aa ((hlc A (.inr rfl)).trans HA.o);refine hK1.o _ _ (fun q=>by simp at q) ?_;clear hK1 K1 pC hlc;refine gC hQ 14 ?_;try simp only [ak];refine gC hQ 15 ?_;try simp only [ak];refine gC hQ 16 ?_;try simp only [ak];refine eB 18 (fun t ht=>by simp;omega) Tcf rfl ?_;simp only [cQ,cL];obtain ⟨r0,r1,r2⟩:=UN (cr HA.o)
  exact Tb2):p:=h
theorem qB 
  (M:fw X bs bb nv vv g next w0 Lv cs l0 sv Gf ps nx L xs w) (hk:Ld g next) (n:Int) (hn1:1<=n) (hn2:n<=3) {c1 c2 c3 c4 c5 c6 c7 c9 c10 c11 c12 c13 c14 c15 c16 c17 c18 c19 c20 c21 c22 c23 c24 c25 c26 c27 c28 c29 c30 c31 c32 c33 c34 c35 c36 c37 c38 c39 c40 c41 c42 c43 c44 c45 c46 c47 c48 c49 c50 c51 c52 c53 c54 c55 c56 c57 c58 c59 c60 c61 c62 c63 c64 c65 c66 c67 c68 c69 c70 c71 c72 c73 c74 c75 c76 c77 c78 c79 c80 c81 c82 c83 c84 c85 c86 c87 c88 c89 c90 c91 c92 c93 c94 c95 c96 c97 c98 c99 c100 c101 c102 c103 c104 c105 c106 c107 c108 c109 c110 c111 c112 c113 c114 c115 c116 c117 c118 c119 c120 c121 c122 c123 c124:Value} (K:Act->World->Prop) (Q:Exit->Act->World->Prop) (hQ:∀ c (a:Act) (d:Tmp) (v:Value) w,Q (.panic c) (a.put (some d) v) w->Q (.panic c) a w)
  (HK:Hid (∀ (A:Nat) (on:ByteArray) (s:Int) (ok:Bool) (ps1:List (ByteArray × Int × Int)) (nx1:List Int) (w':World) (u60 u61 u62 u63 u64 u65 u66 u67 u68 u69 u70 u71 u72 u73 u74 u75 u76:Value),w'.heap[A]?=some (.cells (Tau on s) 60 (0,0))->L<A->(ok=true->ps1=[(on,s,n)])->fw X bs bb nv vv g next w0 Lv cs l0 sv Gf (ps++ps1) nx1 L xs w'->(∀ k,X k->w'.heap[k]?=w.heap[k]?)->K ⟨#[.pointer (some bb),c1,c2,c3,c4,c5,c6,c7,.int .i64 n,c9,.pointer (some A),.bool ok,c12,c13,c14,c15,c16,c17,c18,c19,c20,c21,c22,c23,c24,c25,c26,c27,c28,c29,c30,c31,c32,c33,c34,c35,c36,c37,c38,c39,c40,c41,c42,c43,c44,c45,c46,c47,c48,c49,c50,c51,c52,c53,c54,c55,c56,c57,c58,c59,u60,u61,u62,u63,u64,u65,u66,u67,u68,u69,u70,u71,u72,u73,u74,u75,u76,c77,c78,c79,c80,c81,c82,c83,c84,c85,c86,c87,c88,c89,c90,c91,c92,c93,c94,c95,c96,c97,c98,c99,c100,c101,c102,c103,c104,c105,c106,c107,c108,c109,c110,c111,c112,c113,c114,c115,c116,c117,c118,c119,c120,c121,c122,c123,c124],[]⟩ w')) :
  Code.wp prog (p9 12) (Exit.then K Q) ⟨#[.pointer (some bb),c1,c2,c3,c4,c5,c6,c7,.int .i64 n,c9,c10,c11,c12,c13,c14,c15,c16,c17,c18,c19,c20,c21,c22,c23,c24,c25,c26,c27,c28,c29,c30,c31,c32,c33,c34,c35,c36,c37,c38,c39,c40,c41,c42,c43,c44,c45,c46,c47,c48,c49,c50,c51,c52,c53,c54,c55,c56,c57,c58,c59,c60,c61,c62,c63,c64,c65,c66,c67,c68,c69,c70,c71,c72,c73,c74,c75,c76,c77,c78,c79,c80,c81,c82,c83,c84,c85,c86,c87,c88,c89,c90,c91,c92,c93,c94,c95,c96,c97,c98,c99,c100,c101,c102,c103,c104,c105,c106,c107,c108,c109,c110,c111,c112,c113,c114,c115,c116,c117,c118,c119,c120,c121,c122,c123,c124],[]⟩ w:=by
 exact TaT
theorem zM 
  (M:fw X bs bb nv vv g next w0 Lv cs l0 sv Gf ps nx L xs w) (hk:Ld g next) (n:Int) (hn1:1<=n) (hn2:n<=3) {c1 c2 c3 c4 c5 c6 c7 c9 c10 c11 c12 c13 c14 c15 c16 c17 c18 c19 c20 c21 c22 c23 c24 c25 c26 c27 c28 c29 c30 c31 c32 c33 c34 c35 c36 c37 c38 c39 c40 c41 c42 c43 c44 c45 c46 c47 c48 c49 c50 c51 c52 c53 c54 c55 c56 c57 c58 c59 c60 c61 c62 c63 c64 c65 c66 c67 c68 c69 c70 c71 c72 c73 c74 c75 c76 c77 c78 c79 c80 c81 c82 c83 c84 c85 c86 c87 c88 c89 c90 c91 c92 c93 c94 c95 c96 c97 c98 c99 c100 c101 c102 c103 c104 c105 c106 c107 c108 c109 c110 c111 c112 c113 c114 c115 c116 c117 c118 c119 c120 c121 c122 c123 c124:Value} (K:Act->World->Prop) (Q:Exit->Act->World->Prop) (hQ:∀ c (a:Act) (d:Tmp) (v:Value) w,Q (.panic c) (a.put (some d) v) w->Q (.panic c) a w)
  (HK:Hid (∀ (A:Nat) (on:ByteArray) (s:Int) (ok:Bool) (ps1:List (ByteArray × Int × Int)) (nx1:List Int) (w':World) (u85 u86 u87 u88 u89 u90 u91 u92 u93 u94 u95 u96 u97 u98 u99 u100 u101:Value),w'.heap[A]?=some (.cells (Tau on s) 60 (0,0))->L<A->(ok=true->ps1=[(on,s,n)])->fw X bs bb nv vv g next w0 Lv cs l0 sv Gf (ps++ps1) nx1 L xs w'->(∀ k,X k->w'.heap[k]?=w.heap[k]?)->K ⟨#[.pointer (some bb),c1,c2,c3,c4,c5,c6,c7,.int .i64 n,c9,c10,c11,.pointer (some A),.bool ok,c14,c15,c16,c17,c18,c19,c20,c21,c22,c23,c24,c25,c26,c27,c28,c29,c30,c31,c32,c33,c34,c35,c36,c37,c38,c39,c40,c41,c42,c43,c44,c45,c46,c47,c48,c49,c50,c51,c52,c53,c54,c55,c56,c57,c58,c59,c60,c61,c62,c63,c64,c65,c66,c67,c68,c69,c70,c71,c72,c73,c74,c75,c76,c77,c78,c79,c80,c81,c82,c83,c84,u85,u86,u87,u88,u89,u90,u91,u92,u93,u94,u95,u96,u97,u98,u99,u100,u101,c102,c103,c104,c105,c106,c107,c108,c109,c110,c111,c112,c113,c114,c115,c116,c117,c118,c119,c120,c121,c122,c123,c124],[]⟩ w')) :
  Code.wp prog (p9 16) (Exit.then K Q) ⟨#[.pointer (some bb),c1,c2,c3,c4,c5,c6,c7,.int .i64 n,c9,c10,c11,c12,c13,c14,c15,c16,c17,c18,c19,c20,c21,c22,c23,c24,c25,c26,c27,c28,c29,c30,c31,c32,c33,c34,c35,c36,c37,c38,c39,c40,c41,c42,c43,c44,c45,c46,c47,c48,c49,c50,c51,c52,c53,c54,c55,c56,c57,c58,c59,c60,c61,c62,c63,c64,c65,c66,c67,c68,c69,c70,c71,c72,c73,c74,c75,c76,c77,c78,c79,c80,c81,c82,c83,c84,c85,c86,c87,c88,c89,c90,c91,c92,c93,c94,c95,c96,c97,c98,c99,c100,c101,c102,c103,c104,c105,c106,c107,c108,c109,c110,c111,c112,c113,c114,c115,c116,c117,c118,c119,c120,c121,c122,c123,c124],[]⟩ w:=by
 exact TaT
theorem uU {α:Type}{V:jx α}(hV:Moves V){sz bytes:Nat}{t e:TypeId}{i0:TypeInfo}{z:Value}(hu:prog.underlying t=some (.slice e))(hi:prog.info? e=some i0)(hz:i0.zero=some z)(hsize:i0.size=sz)(hby:i0.bytes=bytes)(hzs:z.cells.size=sz)(Hv:bytes<=1000)
  {o:Oper} {dd:Tmp} {a:Act} {w:World} {K:Act->World->Prop} {Q:Exit->Act->World->Prop}
  (hdd:o.dst=some dd) (s x:Operand) (hop:o.op=Op.call { callee:=Callee.builtin Builtin.append,args:=#[s,x],argTypes:=#[t,t] })
  (B:Nat) (ok:Nat->Prop) (v:Value) (l:List α) (p:α) (hs:a.eval s=v) (hown:iL V sz ok w v l) (g c:Nat) (u:List Value) (hx:a.eval x=.slice (some g) 1 c)
  (ez:u.length=sz) (Kk:V ok w u p) (hu1:∀ z∈u,z.oneCell'=true) (hc:∀ (j:Nat) (y:Value),u[j]?=some y->w.cell? (g,j)=some y) (hB:B<=w.heap.size)
  (hK:∀ cap w',bF V sz e B ok w' (.slice (some w.heap.size) (l.length+1) cap) (l++[p])->Below w.heap.size w w'->w.heap.size<w'.heap.size->K (a.put (some dd) (.slice (some w.heap.size) (l.length+1) cap)) w'):Oper.wp prog o a w K Q:=by
 obtain ⟨cap,w',hr,ho,hb,hl⟩:=rG (ty:=o.type) hV hu hi hz hsize hby hzs Hv B ok v l p hown g c u ez Kk hu1 hc hB;unfold Oper.wp;simp [execOp,hop,resolve,invoke,builtin,hs,hx,hr,Result.andThen];show K (a.put o.dst _) w';rw [hdd];exact hK cap w' ho hb hl
theorem Tdx {p:Prop}(h:p:=by simp [World.cell?,e2,hA]):p:=h
theorem yX {Sb A:Nat}{on on2:ByteArray}{s s2:Int}
  (M:fw (fD X L) bs bb nv vv g next w0 Lv cs l0 sv Gf ps nx L #[.int .i64 st,.int .i64 n,.int .i64 8,.slice (some Sb) 1 1,.int .i64 0,.slice none 0 0,.string ⟨#[]⟩,.string ⟨#[]⟩,.int .i64 0,.int .i64 0,.int .i64 0] w) (hL1:Lv+1+1<=L) (hL2:sv.ownBlock≠some L) (UA:L<A)
  (Lc:w.heap[Sb]?=some (.cells (Tau on s) 60 (0,0))) (gw:(okB (eO (fD X L) Lv sv) bb nv vv) Sb) (hA:w.heap[A]?=some (.cells (Tau on2 s2) 60 (0,0)))
  (hn1:1<=n) (hn2:n<=3) {c1 c2 c3 c4 c5 c6 c7 c10 c11 c13 c14 c15 c16 c17 c18 c19 c20 c21 c22 c23 c24 c25 c26 c27 c28 c29 c30 c31 c32 c33 c34 c35 c36 c37 c38 c39 c40 c41 c42 c43 c44 c45 c46 c47 c48 c49 c50 c51 c52 c53 c54 c55 c56 c57 c58 c59 c60 c61 c62 c63 c64 c65 c66 c67 c68 c69 c70 c71 c72 c73 c74 c75 c76 c77 c78 c79 c80 c81 c82 c83 c84 c85 c86 c87 c88 c89 c90 c91 c92 c93 c94 c95 c96 c97 c98 c99 c100 c101 c102 c103 c104 c105 c106 c107 c108 c109 c110 c111 c112 c113 c114 c115 c116 c117 c118 c119 c120 c121 c122 c123 c124:Value} (K:Act->World->Prop) (Q:Exit->Act->World->Prop) (hQ:∀ c (a:Act) (d:Tmp) (v:Value) w,Q (.panic c) (a.put (some d) v) w->Q (.panic c) a w)
  (HK:Hid (∀ (gb cap:Nat) (dn:Int) (w':World) (u104 u105 u106 u107 u108 u109 u110 u111 u112 u113 u114 u115 u116 u117:Value),0<=dn->dn<=n->fw (fD X L) bs bb nv vv g next w0 Lv cs l0 sv Gf ps nx L #[.int .i64 st,.int .i64 n,.int .i64 8,.slice (some gb) 2 cap,.int .i64 0,.slice none 0 0,.string ⟨#[]⟩,.string ⟨#[]⟩,.int .i64 0,.int .i64 0,.int .i64 dn] w'->ck aQ 3 (okB (eO (fD X L) Lv sv) bb nv vv) w' [.slice (some gb) 2 cap] [⟨false,on,s⟩,⟨false,on2,s2⟩]->K ⟨#[.pointer (some bb),c1,c2,c3,c4,c5,c6,c7,.int .i64 n,.pointer (some L),c10,c11,.pointer (some A),c13,c14,c15,c16,c17,c18,c19,c20,c21,c22,c23,c24,c25,c26,c27,c28,c29,c30,c31,c32,c33,c34,c35,c36,c37,c38,c39,c40,c41,c42,c43,c44,c45,c46,c47,c48,c49,c50,c51,c52,c53,c54,c55,c56,c57,c58,c59,c60,c61,c62,c63,c64,c65,c66,c67,c68,c69,c70,c71,c72,c73,c74,c75,c76,c77,c78,c79,c80,c81,c82,c83,c84,c85,c86,c87,c88,c89,c90,c91,c92,c93,c94,c95,c96,c97,c98,c99,c100,c101,c102,c103,u104,u105,u106,u107,u108,u109,u110,u111,u112,u113,u114,u115,u116,u117,c118,c119,c120,c121,c122,c123,c124],[]⟩ w')) :
  Code.wp prog (p9 18) (Exit.then K Q) ⟨#[.pointer (some bb),c1,c2,c3,c4,c5,c6,c7,.int .i64 n,.pointer (some L),c10,c11,.pointer (some A),c13,c14,c15,c16,c17,c18,c19,c20,c21,c22,c23,c24,c25,c26,c27,c28,c29,c30,c31,c32,c33,c34,c35,c36,c37,c38,c39,c40,c41,c42,c43,c44,c45,c46,c47,c48,c49,c50,c51,c52,c53,c54,c55,c56,c57,c58,c59,c60,c61,c62,c63,c64,c65,c66,c67,c68,c69,c70,c71,c72,c73,c74,c75,c76,c77,c78,c79,c80,c81,c82,c83,c84,c85,c86,c87,c88,c89,c90,c91,c92,c93,c94,c95,c96,c97,c98,c99,c100,c101,c102,c103,c104,c105,c106,c107,c108,c109,c110,c111,c112,c113,c114,c115,c116,c117,c118,c119,c120,c121,c122,c123,c124],[]⟩ w:=by
 conv=>arg 2;whnf
 have cX:=M.m.post.bld.Gj;have gO:=M.m.post.bld.lt;have Y9:=M.m.post.bld.xlt L (.inl (.inr rfl));have Zx:L≠bs:=by omega
 have UB:A≠bs:=by omega
 have sy:bb≠bs:=by omega
 have hw1:IntKind.i64.wrap (n+1)=n+1:=dy _ Tcd;obtain ⟨i0,hi,hz0,hz1,hz2⟩:=ei kL;have HT:Hid (iL aQ 3 (okB (eO (fD X L) Lv sv) bb nv vv) w (.slice (some Sb) 1 1) [⟨false,on,s⟩]):=aa ⟨Sb,[.bool false,.string on,.int .i64 s],rfl,aq Lc,gw,Flat.one rfl rfl Tco,(fun j y hy=>by simp only [World.cell?,Lc];simpa using hy),Tce⟩;have HS:Hid (∀ w':World,w'.heap[L]?=w.heap[L]?->w'.heap[A]?=w.heap[A]?->w'.heap[bb]?=w.heap[bb]?->w'.cell? (Tab L 3)=some (.slice (some Sb) 1 1)/\w'.cell? A=some (.bool false)/\w'.cell? (Tab A 1)=some (.string on2)/\w'.cell? (Tab A 2)=some (.int .i64 s2)/\w'.cell? bb=some (.pointer (some bs))):=aa fun w' e1 e2 e3=>⟨by simp [World.cell?,e1,M.lx],Tdx,Tdx,Tdx,(cd (w:=w) e3).trans M.m.post.bld.c0⟩;have UC:A<w.drew.heap.size:=aq hA;have UD:L<w.drew.heap.size:=Y9.2;have pB:bb<w.drew.heap.size:=cX;clear Lc hA;refine kW (fun w'=>w'.cell? (Tab L 3)=some (.slice (some Sb) 1 1)/\w'.cell? A=some (.bool false)/\w'.cell? (Tab A 1)=some (.string on2)/\w'.cell? (Tab A 2)=some (.int .i64 s2)/\w'.cell? bb=some (.pointer (some bs))) (fun i=>decide (i<13)&&!([0,5,6,7,9,10]:List Nat).contains i) Tcf (HS.o w rfl rfl rfl) (fun hHeld=>?_);refine gC hQ 0 ?_;try simp only [ak];refine gC hQ 5 ?_;try simp only [ak];refine gC hQ 6 ?_;try simp only [ak];refine gC hQ 7 ?_;try simp only [ak];refine gC hQ 9 ?_;try simp only [ak];refine gC hQ 10 ?_;try simp only [ak];refine cH hQ 1 hHeld ?_;try simp only [ak];refine cH hQ 2 hHeld ?_;try simp only [ak];refine cH hQ 8 hHeld ?_;try simp only [ak];have M7:=M.below ((bj _ _).drew);replace HT:Hid (iL aQ 3 (okB (eO (fD X L) Lv sv) bb nv vv) w.drew (.slice (some Sb) 1 1) [⟨false,on,s⟩]):=aa (HT.o.moves aQ.moves ⟨bk _,fun b _ ho=>⟨ho,rfl⟩⟩);replace HS:Hid (∀ w':World,w'.heap[L]?=w.drew.heap[L]?->w'.heap[A]?=w.drew.heap[A]?->w'.heap[bb]?=w.drew.heap[bb]?->w'.cell? (Tab L 3)=some (.slice (some Sb) 1 1)/\w'.cell? A=some (.bool false)/\w'.cell? (Tab A 1)=some (.string on2)/\w'.cell? (Tab A 2)=some (.int .i64 s2)/\w'.cell? bb=some (.pointer (some bs))):=HS;generalize hwd:w.drew=wd at *;clear hwd hHeld M cX Y9 gw hw1;have EE:Hid (∀ k,k<wd.heap.size->k≠bs->wd.heap[k]?=wd.heap[k]?):=aa fun _ _ _=>rfl;have hz:wd.heap.size<=wd.heap.size:=bk _;refine bS (i:=3) rfl rfl Tcf (fun K1 hK1=>?_);go_simp;have MG:=M7.below (ae wd (.cells (Tau on2 s2) 60));have EG:Hid (∀ k,k<wd.heap.size->k≠bs->(wd.alloc (.cells (Tau on2 s2) 60)).heap[k]?=wd.heap[k]?):=aa fun k hk hb=>(cj _ _ _ (cC hk hz)).trans (EE.o k hk hb);have HG:=aa (b9 wd (.cells (Tau on2 s2) 60));have UE:wd.heap.size<=(wd.alloc (.cells (Tau on2 s2) 60)).heap.size:=cA hz Tce;have hG:wd.heap.size<=wd.heap.size:=hz;clear EE hz;refine hK1.o _ _ (fun _=>HS.o _ (EG.o L UD Zx) (EG.o A UC UB) (EG.o bb pB sy)) ?_;clear hK1 K1;generalize hW2:wd.alloc _=w5 at *;clear hW2;refine bS (i:=4) rfl rfl Tcf (fun K1 hK1=>?_);refine uU aQ.moves underlying57 hi hz0 hz1 hz2 rfl Tcg rfl _ _ Tci (bb+1) (okB (eO (fD X L) Lv sv) bb nv vv) (.slice (some Sb) 1 1) [⟨false,on,s⟩] ⟨false,on2,s2⟩ Tci ?_ wd.heap.size 1 [.bool false,.string on2,.int .i64 s2] Tci rfl rfl ?_ ?_ ?_ ?_
 ·exact HT.o.moves aQ.moves ⟨UE,fun b hb ho=>⟨ho,EG.o b hb TcK⟩⟩
 ·simp [Value.oneCell']
 ·intro j y hy
  simp only [World.cell?,HG.o];simpa using hy
 ·have:=MG.m.post.bld.Gj;omega
 intro cap w6 ho jn hlt;have MP:=MG.below jn;have EP:Hid (∀ k,k<wd.heap.size->k≠bs->w6.heap[k]?=wd.heap[k]?):=aa fun k hk hb=>(jn.block k (cC hk UE)).trans (EG.o k hk hb);have hzP:=cA UE jn.size
 have HR:Hid (ck aQ 3 (okB (eO (fD X L) Lv sv) bb nv vv) w6 [.slice (some w5.heap.size) 2 cap] [⟨false,on,s⟩,⟨false,on2,s2⟩]):=aa (ho.rd aQ.moves Tcg (fun _ _ q=>q) (fun b e=>by
  obtain rfl:w5.heap.size=b:=by injection e
  exact MG.m.post.bld.okNew (bk _)))
 refine hK1.o _ _ (fun _=>HS.o _ (EP.o L UD Zx) (EP.o A UC UB) (EP.o bb pB sy)) ?_;generalize w5.heap.size=gb at *;clear hK1 K1 ho jn hlt;simp only [aS];clear EG UE MG;have EE:=EP;have hz:=hzP;have hHeld:=HS.o _ (EP.o L UD Zx) (EP.o A UC UB) (EP.o bb pB sy);refine cH hQ 12 hHeld ?_;try simp only [ak];clear hHeld;refine bS (i:=11) rfl rfl Tcf (fun K1 hK1=>?_);go_simp;refine (bY bs (n+1) _ Tcd Tcd MP.m.post.bld.src).mono ?_;rintro e w9 ⟨dn,rfl,PN,SR,PT,yr⟩;have EN:Hid (∀ k,k<wd.heap.size->k≠bs->w9.heap[k]?=wd.heap[k]?):=aa fun k hk hb=>(yr.block k (cC hk hz) hb).trans (EE.o k hk hb);have MN:=MP.read PT yr;have hzN:=cA hz yr.size;have Za:Hid (ck aQ 3 (okB (eO (fD X L) Lv sv) bb nv vv) w9 [.slice (some gb) 2 cap] [⟨false,on,s⟩,⟨false,on2,s2⟩]):=aa ((ck.moves aQ.moves).mv ⟨yr.size,fun b hb ho=>⟨ho,yr.block b hb TcK⟩⟩ HR.o);clear HR;have HR:=Za;clear Za;refine hK1.o _ _ (fun _=>HS.o _ (EN.o L UD Zx) (EN.o A UC UB) (EN.o bb pB sy)) ?_;clear hK1 K1 PT yr;clear EE hz;refine eB 13 (fun t ht=>by simp;omega) Tcf rfl ?_;simp only [cQ,cL];have x3:=cr MN.lx 3 _ rfl;have x10:=cr MN.lx 10 _ rfl
 have xf:=sr MN.lx
 go_wp2;exact HK.o gb cap dn _ _ _ _ _ _ _ _ _ _ _ _ _ _ _ PN Tcd ⟨(MN.m.put hL1 hL2 3 _).put hL1 hL2 10 _,block_setCell (i:=10) _ (block_setCell (i:=3) _ MN.lx),.inr rfl⟩ ((ck.moves aQ.moves).mv ⟨Tcq,fun b _ ho=>⟨ho,by have U3:b≠L:=fun e=>ho.2.2.2 (.inl (.inr e));rw [bw _ _ _ _ U3,bw _ _ _ _ U3]⟩⟩ HR.o)
theorem TcD {p:Prop}(h:p:=by simp only [aV];omega):p:=h
theorem jW {tv:Value}{kd dn:Int}{ap:Option Addr}{al ac:Nat}{Ga:List aR}{name:ByteArray}{id:Int}{hidden ro:Bool}
  (M:fw (fD X L) bs bb nv vv g next w0 Lv cs l0 sv Gf ps nx L #[.int .i64 st,.int .i64 n,.int .i64 kd,.slice ap al ac,.int .i64 0,.slice none 0 0,.string ⟨#[]⟩,.string ⟨#[]⟩,.int .i64 0,.int .i64 0,.int .i64 dn] w) (hcs:Hid (∀ v,cs v=#[.string name,.int .u64 id,.bool hidden,.bool ro,tv,v])) (GF:Gf.length<=3)
  (hR:ck aQ 3 (okB (eO X Lv sv) bb nv vv) w [.slice ap al ac] Ga) (Oo:fB l0 (Gf++[aV st n kd Ga dn])) (u9:List.Sublist (((Gf++[aV st n kd Ga dn]).drop l0.length).flatMap iG) ps)
  (hn1:1<=n) (hn2:n<=3) (c0 c1 c2 c4 c5 c6 c7 c8 c10 c11 c12 c13 c14 c15 c16 c17 c18 c19 c20 c21 c22 c23 c24 c25 c26 c27 c28 c29 c30 c31 c32 c33 c34 c35 c36 c37 c38 c39 c40 c41 c42 c43 c44 c45 c46 c47 c48 c49 c50 c51 c52 c53 c54 c55 c56 c57 c58 c59 c60 c61 c62 c63 c64 c65 c66 c67 c68 c69 c70 c71 c72 c73 c74 c75 c76 c77 c78 c79 c80 c81 c82 c83 c84 c85 c86 c87 c88 c89 c90 c91 c92 c93 c94 c95 c96 c97 c98 c99 c100 c101 c102 c103 c104 c105 c106 c107 c108 c109 c110 c111 c112 c113 c114 c115 c116 c117 c118 c119 c120 c121 c122 c123 c124:Value) (Q:Exit->Act->World->Prop)
  (HK:Hid (∀ (sv':Value) (w':World) (u118 u119 u120 u121 u122 u123:Value),py X bs bb nv vv g next w0 Lv cs l0 sv' (Gf++[aV st n kd Ga dn]) ps nx w'->Q .normal ⟨#[c0,c1,c2,.pointer (some Lv),c4,c5,c6,c7,c8,.pointer (some L),c10,c11,c12,c13,c14,c15,c16,c17,c18,c19,c20,c21,c22,c23,c24,c25,c26,c27,c28,c29,c30,c31,c32,c33,c34,c35,c36,c37,c38,c39,c40,c41,c42,c43,c44,c45,c46,c47,c48,c49,c50,c51,c52,c53,c54,c55,c56,c57,c58,c59,c60,c61,c62,c63,c64,c65,c66,c67,c68,c69,c70,c71,c72,c73,c74,c75,c76,c77,c78,c79,c80,c81,c82,c83,c84,c85,c86,c87,c88,c89,c90,c91,c92,c93,c94,c95,c96,c97,c98,c99,c100,c101,c102,c103,c104,c105,c106,c107,c108,c109,c110,c111,c112,c113,c114,c115,c116,c117,u118,u119,u120,u121,u122,u123,c124],[]⟩ w')) :
  Code.wp prog (p9 19) Q ⟨#[c0,c1,c2,.pointer (some Lv),c4,c5,c6,c7,c8,.pointer (some L),c10,c11,c12,c13,c14,c15,c16,c17,c18,c19,c20,c21,c22,c23,c24,c25,c26,c27,c28,c29,c30,c31,c32,c33,c34,c35,c36,c37,c38,c39,c40,c41,c42,c43,c44,c45,c46,c47,c48,c49,c50,c51,c52,c53,c54,c55,c56,c57,c58,c59,c60,c61,c62,c63,c64,c65,c66,c67,c68,c69,c70,c71,c72,c73,c74,c75,c76,c77,c78,c79,c80,c81,c82,c83,c84,c85,c86,c87,c88,c89,c90,c91,c92,c93,c94,c95,c96,c97,c98,c99,c100,c101,c102,c103,c104,c105,c106,c107,c108,c109,c110,c111,c112,c113,c114,c115,c116,c117,c118,c119,c120,c121,c122,c123,c124],[]⟩ w:=by
 conv=>arg 2;whnf
 obtain ⟨sp,mL,PO,s1,s2,s3⟩:=(M.m.st.rd bC.moves Tcg (ok':=fun _=>True) (fun _ _ _=>trivial) (fun _ _=>trivial)).form;subst PO;clear s3;have Md:=M.m.drop;have Zb:=aa M.lx;obtain ⟨i0,hi,hz0,hz1,hz2⟩:=ei Am;have HI:=aa hi;clear hi;have H0:=aa hz0;clear hz0;have H1:=aa hz1;clear hz1;have H2:=aa hz2;clear hz2
 have qL:=cr Zb.o
 obtain ⟨y0,y1,y2,y3,y4,y5,y6,y7,y8,y9,y10⟩:=IC qL;clear qL;have v5:w.cell? (Tab Lv 5)=some (.slice sp Gf.length mL):=by simp [World.cell?,Md.bv,hcs.o]
 have Qg:Hid (bC (okB (eO X Lv (.slice sp Gf.length mL)) bb nv vv) w [.int .i64 st,.int .i64 n,.int .i64 kd,.slice ap al ac,.int .i64 0,.slice none 0 0,.string ⟨#[]⟩,.string ⟨#[]⟩,.int .i64 0,.int .i64 0,.int .i64 dn] (aV st n kd Ga dn)):=aa ⟨_,_,rfl,hR,ck.nil⟩;clear hR;have jn:=ae w (.cells #[.int .i64 st,.int .i64 n,.int .i64 kd,.slice ap al ac,.int .i64 0,.slice none 0 0,.string ⟨#[]⟩,.string ⟨#[]⟩,.int .i64 0,.int .i64 0,.int .i64 dn] 79);have hBW:=Md.hB;have HM:=aa Oo;clear Oo;have ox:=aa u9;clear u9;clear M Zb
 go_wp2_with (at_builtin;refine Aq bC.moves underlying53 HI.o H0.o H1.o H2.o rfl Tcg Tcg rfl _ _ rfl (Lv+1+1) (fun b=>(okB (eO X Lv (.slice sp Gf.length mL)) bb nv vv) b/\b<w.heap.size) (.slice sp Gf.length mL) Gf (aV st n kd Ga dn) rfl ?d1 w.heap.size 1 [.int .i64 st,.int .i64 n,.int .i64 kd,.slice ap al ac,.int .i64 0,.slice none 0 0,.string ⟨#[]⟩,.string ⟨#[]⟩,.int .i64 0,.int .i64 0,.int .i64 dn] rfl rfl ?d2 ?d3 ?d4 ?d5 ?d6 ?d7 ?_)
 case d1=>exact Md.st.moves bC.moves ⟨jn.size,fun b hb ho=>⟨⟨ho,hb⟩,jn.block b hb⟩⟩ (fun k hk=>jn.block k (Md.svLt hk.1))
 case d2=>exact bC.moves.mv ⟨jn.size,fun b hb ho=>⟨⟨ho,hb⟩,jn.block b hb⟩⟩ Qg.o
 case d3=>simp [Value.oneCell']
 case d5=>omega
 case d6 =>
  have:=jn.size;omega
 case d7=>exact fun b hb ho=>(ho.2.2.2 (.inr (.inr (.inr hb)))).elim
 intro gb cap w6 hp;obtain ⟨M7,WZ⟩:=Md.push jn hp HM.o ox.o TcD (fun u v=>by rw [hcs.o,hcs.o];rfl);have u5:w6.cell? (Tab Lv 5)=some (.slice sp Gf.length mL):=by simp [World.cell?,WZ,hcs.o]
 have uf:w6.frozen? (Tab Lv 5)=false:=by simp [World.frozen?,WZ]
 clear hp WZ y0 y1 y2 y3 y4 y5 y6 y7 y8 y9 y10 v5 jn;go_wp2;exact HK.o _ _ _ _ _ _ _ _ M7
end Go.Proofs.YtjdfihglehfelaaGreatDoor
