/- Lemmas: RwR, PolK, RwC, RwO, LaidS. -/
import Derived.Test.YtillcmhjhajimaaGreatDoorQj26
import Derived.LaidMore
import Derived.Stop.Joined
set_option maxRecDepth 100000
set_option maxHeartbeats 32000000
set_option linter.all false
namespace Go.Proofs.YtillcmhjhajimaaGreatDoor
open Go.Proofs.Tryz
open Go.RowKit Go.Maps Go.Shelf
theorem LJ(Q:Exit->Act->World->Prop){c0 c1 c2 c3 c5 c6 c7 c9 c10 c11 c12 c13 c14 c15 c16 c17 c18 c19 c20 c21 c22 c23 c24 c25 c26 c27 c28 c29 c30 c31 c32 c33 c34 c35 c36 c37 c38 c39 c40 c41 c42 c43 c44 c45 c46 c47 c48 c49 c50:Value}(w:World)(Bq Bx:Nat)(r:aY)(hq:w.heap[Bq]?=some (.cells (Taj r) 24 (0,0)))(hx:w.heap[Bx]?=some (.cells (Taj r) 24 (0,0)))(hne:¬Bq=Bx)
  (HK:Hid (∀(e p:Int) (w':World) (u26 u27 u28 u29 u30 u31 u32 u33 u34 u35 u36 u37:Value),(-9223372036854775808<=e/\e<=9223372036854775807)->(-9223372036854775808<=p/\p<=9223372036854775807)->w'.heap[Bx]?=some (.cells #[.int .i64 1,.int .i64 1,.int .i64 e,.int .i64 p,.string r.tag,.string r.near,.string r.sep] 24 (0,0))->cR (fun b=>b=Bx) w w'->Q .normal ⟨#[c0,c1,c2,c3,.pointer (some Bq),c5,c6,c7,.pointer (some Bx),c9,c10,c11,c12,c13,c14,c15,c16,c17,c18,c19,c20,c21,c22,c23,c24,c25,u26,u27,u28,u29,u30,u31,u32,u33,u34,u35,u36,u37,c38,c39,c40,c41,c42,c43,c44,c45,c46,c47,c48,c49,c50],[]⟩ w'))
  (hQ:∀c (a:Act) (d:Tmp) (v:Value) w,Q (.panic c) (a.put (some d) v) w->Q (.panic c) a w) :
  (Ai Tryz.f3 5).wp prog Q ⟨#[c0,c1,c2,c3,.pointer (some Bq),c5,c6,c7,.pointer (some Bx),c9,c10,c11,c12,c13,c14,c15,c16,c17,c18,c19,c20,c21,c22,c23,c24,c25,c26,c27,c28,c29,c30,c31,c32,c33,c34,c35,c36,c37,c38,c39,c40,c41,c42,c43,c44,c45,c46,c47,c48,c49,c50],[]⟩ w:=by
 conv=>arg 2;whnf
 have qL:=mi hq;have q2:=qL 2 _ rfl;have q3:=qL 3 _ rfl;clear qL;have hx0:w.drew.heap[Bx]?=some (.cells (Taj r) 24 (0,0)):=hx;have HS:Hid (∀W:World,W.heap[Bq]?=w.heap[Bq]?->W.cell? (Tac Bq 2)=some (.int .i64 r.Gc)/\W.cell? (Tac Bq 3)=some (.int .i64 r.Gg)):=aa fun W h=>⟨mi (h.trans hq) 2 _ rfl,mi (h.trans hq) 3 _ rfl⟩;have HM0:Hid (cR (fun b=>b=Bx) w w.drew):=aa (cR.of_below (bj _ _).drew);have hq0:w.drew.heap[Bq]?=w.heap[Bq]?:=rfl;clear hx hq;refine aZ (fun w'=>w'.cell? (Tac Bq 2)=some (.int .i64 r.Gc)/\w'.cell? (Tac Bq 3)=some (.int .i64 r.Gg)) 16 [] TcP ⟨q2,q3⟩ (fun hHeld=>?_);refine cH hQ 0 hHeld ?_;refine cH hQ 1 hHeld ?_;refine cH hQ 2 hHeld ?_;refine cH hQ 3 hHeld ?_;refine cH hQ 4 hHeld ?_;refine cH hQ 5 hHeld ?_;refine cH hQ 6 hHeld ?_;refine cH hQ 7 hHeld ?_;clear q2 q3;generalize w.drew=W0 at *
 have hwr:∀x:Int,-9223372036854775808<=IntKind.i64.wrap x/\IntKind.i64.wrap x<=9223372036854775807:=fun x=>by
  rw[IntKind.wrap_i64];omega
 obtain⟨he1,he2⟩:=hwr (1+bits BinOp.and IntKind.i64 r.Gc 7);obtain⟨hp1,hp2⟩:=hwr (1+bits BinOp.and IntKind.i64 r.Gg 3);generalize IntKind.i64.wrap (1+bits BinOp.and IntKind.i64 r.Gc 7)=e at *;generalize bits BinOp.and IntKind.i64 r.Gc 7=e0 at *;generalize IntKind.i64.wrap (1+bits BinOp.and IntKind.i64 r.Gg 3)=p at *;generalize bits BinOp.and IntKind.i64 r.Gg 3=p0 at *;clear hwr;refine lR 8 fun K hK=>?_;go_simp;refine hK.o _ _ hHeld ?_;clear hK K;refine lR 9 fun K hK=>?_;have xc:=mi hx0 0 _ rfl;have xf:W0.frozen? Bx=false:=by simp[World.frozen?,hx0]
 go_simp;have hq1:(W0.setCell Bx (.int .i64 1)).heap[Bq]?=w.heap[Bq]?:=(bw _ _ _ _ hne).trans hq0;have hx1:(W0.setCell Bx (.int .i64 1)).heap[Bx]?=some (.cells #[.int .i64 1,.int .i64 r.Gh,.int .i64 r.Gc,.int .i64 r.Gg,.string r.tag,.string r.near,.string r.sep] 24 (0,0)):=block_setCell _ hx0;have Nf:Hid (cR (fun b=>b=Bx) w (W0.setCell Bx (.int .i64 1))):=aa (cR.setCell (F:=fun b=>b=Bx) (p:=Bx) HM0.o (.inl rfl) _);refine hK.o _ _ (HS.o _ hq1) ?_;clear hK K hHeld xc xf;have hHeld:=HS.o _ hq1;clear HM0 hx0 hq0;generalize World.setCell W0 _ _=W1 at *;refine lR 10 fun K hK=>?_;go_simp;refine hK.o _ _ hHeld ?_;clear hK K;refine lR 11 fun K hK=>?_;have xc:=mi hx1 1 _ rfl;have xf:W1.frozen? (Tac Bx 1)=false:=by simp[World.frozen?,hx1]
 go_simp;have hq2:(W1.setCell (Tac Bx 1) (.int .i64 1)).heap[Bq]?=w.heap[Bq]?:=(bw _ _ _ _ hne).trans hq1;have hx2:(W1.setCell (Tac Bx 1) (.int .i64 1)).heap[Bx]?=some (.cells #[.int .i64 1,.int .i64 1,.int .i64 r.Gc,.int .i64 r.Gg,.string r.tag,.string r.near,.string r.sep] 24 (0,0)):=block_setCell _ hx1;have QY:Hid (cR (fun b=>b=Bx) w (W1.setCell (Tac Bx 1) (.int .i64 1))):=aa (cR.setCell (F:=fun b=>b=Bx) (p:=⟨Bx,1,none⟩) Nf.o (.inl rfl) _);refine hK.o _ _ (HS.o _ hq2) ?_;clear hK K hHeld xc xf;have hHeld:=HS.o _ hq2;clear Nf hx1 hq1;generalize World.setCell W1 _ _=W2 at *;refine lR 12 fun K hK=>?_;go_simp;refine hK.o _ _ hHeld ?_;clear hK K;refine lR 13 fun K hK=>?_;have xc:=mi hx2 2 _ rfl;have xf:W2.frozen? (Tac Bx 2)=false:=by simp[World.frozen?,hx2]
 go_simp;have hq3:(W2.setCell (Tac Bx 2) (.int .i64 e)).heap[Bq]?=w.heap[Bq]?:=(bw _ _ _ _ hne).trans hq2;have hx3:(W2.setCell (Tac Bx 2) (.int .i64 e)).heap[Bx]?=some (.cells #[.int .i64 1,.int .i64 1,.int .i64 e,.int .i64 r.Gg,.string r.tag,.string r.near,.string r.sep] 24 (0,0)):=block_setCell _ hx2;have Rp:Hid (cR (fun b=>b=Bx) w (W2.setCell (Tac Bx 2) (.int .i64 e))):=aa (cR.setCell (F:=fun b=>b=Bx) (p:=⟨Bx,2,none⟩) QY.o (.inl rfl) _);refine hK.o _ _ (HS.o _ hq3) ?_;clear hK K hHeld xc xf;have hHeld:=HS.o _ hq3;clear QY hx2 hq2;generalize World.setCell W2 _ _=W3 at *;refine lR 14 fun K hK=>?_;go_simp;refine hK.o _ _ hHeld ?_;clear hK K;refine lR 15 fun K hK=>?_;have xc:=mi hx3 3 _ rfl;have xf:W3.frozen? (Tac Bx 3)=false:=by simp[World.frozen?,hx3]
 go_simp;have hq4:(W3.setCell (Tac Bx 3) (.int .i64 p)).heap[Bq]?=w.heap[Bq]?:=(bw _ _ _ _ hne).trans hq3;have hx4:(W3.setCell (Tac Bx 3) (.int .i64 p)).heap[Bx]?=some (.cells #[.int .i64 1,.int .i64 1,.int .i64 e,.int .i64 p,.string r.tag,.string r.near,.string r.sep] 24 (0,0)):=block_setCell _ hx3;have Ql:Hid (cR (fun b=>b=Bx) w (W3.setCell (Tac Bx 3) (.int .i64 p))):=aa (cR.setCell (F:=fun b=>b=Bx) (p:=⟨Bx,3,none⟩) Rp.o (.inl rfl) _);refine hK.o _ _ (HS.o _ hq4) ?_;clear hK K hHeld xc xf;have hHeld:=HS.o _ hq4;clear Rp hx3 hq3;generalize World.setCell W3 _ _=W4 at *;refine aP TcP rfl ?_;simp only[cQ,km,cL];exact HK.o e p W4 _ _ _ _ _ _ _ _ _ _ _ _ ⟨he1,he2⟩ ⟨hp1,hp2⟩ hx4 Ql.o
def P7:ByteArray:=⟨#[115,105,116,101,61,49]⟩
def iU:af:=⟨⟨#[118,103]⟩,0,0,1,0,[],[⟨⟨#[97]⟩,1,0,4,false,false,[P7]⟩,⟨⟨#[98]⟩,2,0,4,false,false,[]⟩],[],[]⟩
def rC:aY:=⟨1,1,1,4,⟨#[]⟩,⟨#[]⟩,⟨#[115,105,116,101,61]⟩⟩
theorem xO:kP iU rC=0:=by kernel_rfl
theorem Et:jU iU rC 0=P7:=by kernel_rfl
theorem Eb:jU iU rC 1=⟨#[98,32]⟩:=by kernel_rfl
theorem EC:NL iU:=by
 refine⟨⟨TcQ,⟨TcQ,fun s hs=>by cases hs⟩,TcQ,TcQ,TcQ,fun d hd=>?_,fun v hv=>Tdr,fun h hh=>(by cases hh)⟩,⟨TcQ,fun d hd=>?_,TcQ,fun v hv=>Tdr⟩,fun v hv=>Tdr,fun v hv=>Tdr⟩
 ·simp only[iU,dr,cY,dg]at hd;rcases hd with rfl|rfl
  ·exact⟨TcQ,TcQ,fun s hs=>by obtain rfl:=List.mem_singleton.1 hs;decide⟩
  exact⟨TcQ,TcQ,fun s hs=>by cases hs⟩
 simp only[iU,dr,cY,dg]at hd;rcases hd with rfl|rfl<;>decide
theorem Ec:dK rC:=⟨TcQ,TcQ,TcQ,TcQ,TcQ,TcQ,TcQ⟩
theorem Tdb{p:Prop}(h:p:=by simp<;>omega):p:=h
theorem wR(w:World)(hS:AW w) :
  Calls prog 4 #[] w fun e w'=>e=.returned (.bool true)/\Below w.heap.size w w':=by
 have MD:=aa hS;clear hS;go_enter func4,ntmps4
 go_upto_region 3 with(fail);generalize hW5:World.alloc (World.alloc (World.alloc (World.alloc w _) _) _) _=W5;have b5:Below w.heap.size w W5:=by
  rw[<- hW5];exact((((bj _ _).alloc (bk _) _).alloc Tdb _).alloc Tdb _).alloc Tdb _
 have h0:W5.heap[w.heap.size]?=some (.cells #[.string P7] 9 (0,0)):=by
  rw[<- hW5,cj _ _ _ Tdb,cj _ _ _ Tdb,cj _ _ _ Tdb];exact b9 w _
 have h1:W5.heap[w.heap.size+1]?=some (.cells #[.string ⟨#[97]⟩,.int .u64 1,.int .i64 0,.int .i64 4,.bool false,.bool false,.slice (some w.heap.size) 1 1,.string ⟨#[98]⟩,.int .u64 2,.int .i64 0,.int .i64 4,.bool false,.bool false,.slice none 0 0] 39 (0,0)):=by
  rw[<- hW5,cj _ _ _ Tdb,cj _ _ _ Tdb];exact lZ TcO
 have h2:W5.heap[w.heap.size+1+1]?=some (.cells #[.string ⟨#[118,103]⟩,.int .u64 0,.int .i64 0,.int .i64 1,.int .i64 0,.slice none 0 0,.slice (some (Tac (w.heap.size+1) 0)) 2 2,.slice none 0 0,.slice none 0 0] 32 (0,0)):=by
  rw[<- hW5,cj _ _ _ Tdb];exact lZ TcO
 have h3:W5.heap[w.heap.size+1+1+1]?=some (.cells #[.int .i64 1,.int .i64 1,.int .i64 1,.int .i64 4,.string ⟨#[]⟩,.string ⟨#[]⟩,.string ⟨#[115,105,116,101,61]⟩] 24 (0,0)):=by
  rw[<- hW5];exact lZ TcO
 clear hW5;have ht:b6 aF 1 (fun _=>True) W5 [.slice (some w.heap.size) 1 1] [P7]:=b6.one (u:=[.string P7]) h0 trivial rfl rfl;have hd:b6 aO 7 (fun _=>True) W5 [.slice (some (Tac (w.heap.size+1) 0)) 2 2] iU.Gb:=⟨_,2,rfl,TcQ,TcQ,fun _=>⟨_,0,rfl,aq h1,trivial,fun i x hx=>by
  match i,hx with
  |0,hx =>
   obtain rfl:=gj hx;refine⟨[.string ⟨#[97]⟩,.int .u64 1,.int .i64 0,.int .i64 4,.bool false,.bool false,.slice (some w.heap.size) 1 1],rfl,⟨_,rfl,ht⟩,fun j z hz=>?_⟩;simp only[World.cell?,h1]
   match j,hz with
   |0,hz=>simpa using hz
   |1,hz=>simpa using hz
   |2,hz=>simpa using hz
   |3,hz=>simpa using hz
   |4,hz=>simpa using hz
   |5,hz=>simpa using hz
   |6,hz=>simpa using hz
   |j+7,hz=>simp at hz
  |1,hx =>
   obtain rfl:=gj hx;refine⟨[.string ⟨#[98]⟩,.int .u64 2,.int .i64 0,.int .i64 4,.bool false,.bool false,.slice none 0 0],rfl,⟨_,rfl,b6.nil⟩,fun j z hz=>?_⟩;simp only[World.cell?,h1]
   match j,hz with
   |0,hz=>simpa using hz
   |1,hz=>simpa using hz
   |2,hz=>simpa using hz
   |3,hz=>simpa using hz
   |4,hz=>simpa using hz
   |5,hz=>simpa using hz
   |6,hz=>simpa using hz
   |j+7,hz=>simp at hz
  |i+2,hx=>simp[iU]at hx⟩⟩
 have hgr:dN (fun _=>True) W5 iU ⟨none,0,some ⟨w.heap.size+1,0,none⟩,2,none,0,none,0⟩:=⟨b6.nil,hd,b6.nil,b6.nil⟩
 have gL:∀(W:World),W.heap[w.heap.size+1+1]?=W5.heap[w.heap.size+1+1]?->∀(j:Nat) (z:Value),[.string ⟨#[118,103]⟩,.int .u64 0,.int .i64 0,.int .i64 1,.int .i64 0,.slice none 0 0,.slice (some (Tac (w.heap.size+1) 0)) 2 2,.slice none 0 0,.slice none 0 0][j]?=some z->W.cell? ⟨w.heap.size+1+1,j,none⟩=some z:=fun W e j z hz=>by
  simp only[World.cell?,e,h2];simpa using hz
 have rL:∀(W:World),W.heap[w.heap.size+1+1+1]?=W5.heap[w.heap.size+1+1+1]?->∀(j:Nat) (z:Value),[.int .i64 1,.int .i64 1,.int .i64 1,.int .i64 4,.string ⟨#[]⟩,.string ⟨#[]⟩,.string ⟨#[115,105,116,101,61]⟩][j]?=some z->W.cell? ⟨w.heap.size+1+1+1,j,none⟩=some z:=fun W e j z hz=>by
  simp only[World.cell?,e,h3];simpa using hz
 have hz2:=aq h2;have hz3:=aq h3;have rB:=aa hgr;have eK:=aa b5;have Qz:=aa gL;have Zq:=aa rL;clear hgr hd ht h0 h1 h2 h3 b5;have gA:=gL W5 rfl;obtain⟨g0,g1,g2,g3,g4,g5,g6,g7,g8⟩:=xr gA;have rA:=rL W5 rfl;obtain⟨r0,r1,r2,r3,r4,r5,r6⟩:=se rA;clear gL rL gA rA;have HP:=aa (jk iU ⟨none,0,some ⟨w.heap.size+1,0,none⟩,2,none,0,none,0⟩ rC W5 rB.o ⟨EC,(D6 xO).1⟩ Ec (MD.o.below eK.o));go_wp2_with fail;clear g0 g1 g2 g3 g4 g5 g6 g7 g8 r0 r1 r2 r3 r4 r5 r6;refine HP.o.mono ?_;clear HP;intro e w6 hp;obtain⟨xv,xs,rfl,OA,-,vh,hb6⟩:=hp.form;rw[xO,aw rfl]at vh;rw[xO];obtain⟨px,cx,rfl,_,_⟩:=OA.cap;have Tn:xs.length=2:=vh;rw[Tn];clear OA vh Tn hp;have Tq:=Zbl eK hb6;have Tp:=aa (rB.o.mv (ok':=fun _=>True) ⟨hb6.size,fun b hb _=>⟨trivial,hb6.block b hb⟩⟩);have gA:=Qz.o w6 (hb6.block _ hz2);obtain⟨g0,g1,g2,g3,g4,g5,g6,g7,g8⟩:=xr gA;have rA:=Zq.o w6 (hb6.block _ hz3);obtain⟨r0,r1,r2,r3,r4,r5,r6⟩:=se rA;have XO:=aa (hb6.block _ hz2);have XP:=aa (hb6.block _ hz3);have hsz6:=hb6.size;clear gA rA hb6;have nt:∀d∈iU.Gb,d.tags.length<=1000000/\d.name.size<=1000000:=fun d hd=>by
  simp only[iU,dr,cY,dg]at hd;rcases hd with rfl|rfl<;>decide
 have Oj:=aa nt;clear nt;have HC0:=aa (ug iU ⟨none,0,some ⟨w.heap.size+1,0,none⟩,2,none,0,none,0⟩ rC 0 w6 Tp.o.Gb TcQ Oj.o TcQ);go_wp2_with fail;clear g0 g1 g2 g3 g4 g5 g6 g7 g8 r0 r1 r2 r3 r4 r5 r6;refine HC0.o.mono ?_;clear HC0;rintro e w7 ⟨rfl,hb7⟩;rw[Et];have ux:=Zbl Tq hb7;have XQ:=aa (Tp.o.mv (ok':=fun _=>True) ⟨hb7.size,fun b hb _=>⟨trivial,hb7.block b hb⟩⟩);have gA:=Qz.o w7 ((hb7.block _ TcN).trans XO.o);obtain⟨g0,g1,g2,g3,g4,g5,g6,g7,g8⟩:=xr gA;have rA:=Zq.o w7 ((hb7.block _ TcN).trans XP.o);obtain⟨r0,r1,r2,r3,r4,r5,r6⟩:=se rA;clear gA rA hb7;have HC1:=aa (ug iU ⟨none,0,some ⟨w.heap.size+1,0,none⟩,2,none,0,none,0⟩ rC 1 w7 XQ.o.Gb TcQ Oj.o TcQ);have hs1:(P7.toList==[115,105,116,101,61,49])=true:=by simp[P7]
 go_wp2_with fail;clear g0 g1 g2 g3 g4 g5 g6 g7 g8 r0 r1 r2 r3 r4 r5 r6;refine HC1.o.mono ?_;clear HC1;rintro e w8 ⟨rfl,hb8⟩;rw[Eb];have Ix:=Zbl ux hb8;clear hb8;go_wp2;go_ret;exact⟨rfl,Ix.o⟩
theorem uR(l:List Int)(v:Value)(r:aY)(k:Int)(w:World)(hr:Hs w v l)(hl:∀x∈l,-9223372036854775808<=x/\x<=9223372036854775807)(hrq:dK r)(hk:-9223372036854775808<=k/\k<=9223372036854775807)(hS:AW w) :
  Calls prog 3 #[v,.agg (Taj r),.int .i64 k] w fun e w'=>e=.returned (.bool true)/\Below w.heap.size w w':=by
 have SA:=aa hrq;clear hrq;have HK:=aa hk;clear hk;have cU:=aa (ae w (.cells (Taj r) 24));have Lz:=aa (b9 w (.cells (Taj r) 24));have HR:=aa (hr.below cU.o);clear hr;have MD:=aa (hS.below cU.o);clear hS;go_enter func3,ntmps3
 go_upto_region 1 with(fail);generalize World.alloc w _=W1 at *;generalize PF:w.heap.size=Bq at Lz ⊢;have qL:=mi Lz.o;have q4:=qL 4 _ rfl;have q5:=qL 5 _ rfl;have q6:=qL 6 _ rfl;clear qL;cases hs:decide (200<wrap64 (wrap64 ((r.near.size:Int)+(r.tag.size:Int))+(r.sep.size:Int)))with
 |true =>
  go_wp2_with fail;refine(wR W1 MD.o).mono ?_;rintro e w2 ⟨rfl,hb2⟩;have TF:=Zbl cU hb2;clear hb2 q4 q5 q6 hs;go_wp2;go_ret;exact⟨rfl,TF.o⟩
 |false =>
  go_wp2_with fail;clear q4 q5 q6 hs;refine(ED l v W1 HR.o hl).mono ?_;rintro e w2 ⟨rfl,hs1,hz1,hb1⟩;go_wp2_with fail;refine(Ca W1.heap.size w2 hs1).mono ?_;intro e w3 hG;obtain⟨g,a,rfl,hgr,MC,hs2,hb2,hz2⟩:=hG.open2 hb1 hz1;have HQ3:=Zbk hb2 Lz;have Tu:=aa (MD.o.below hb2);have cJ:=Zbl cU hb2;have HG3:=aa hgr.lt;have XT:=aa (⟨MC.gin,MC.mchk⟩:GOk g);have I3:=aa MC.ckIn;have RL:Hid (∀p∈pieces g.F9,0<=p.len/\p.len<=1000000):=aa (CJ MC.tame.tame);have Oj:Hid (∀d∈g.Gb,d.tags.length<=1000000/\d.name.size<=1000000):=aa fun d hd=>by
   have ND:(dw g).2=0:=(Dg MC.mchk).2.1;have h1:=oo ((nG ND).2 d hd).2;have h2:=zy ND d hd;exact⟨TcN,TcN⟩
  have hq0:=aq Lz.o;have hw13:=hb2.size;clear hs1 hz1 hb1 hG hgr MC hs2 hb2 hz2 Lz MD HR;have bA:=ae w3 (.cells (Tad g a) 32);have Mj:=aa (b9 w3 (.cells (Tad g a) 32));have HQ4:=Zbk bA HQ3;have aH8:=aa (Tu.o.below bA);have eI:=Zbl cJ bA;have HG4:=aa (HG3.o.keep (cR.bl bA));have hz34:=bA.size;have aK5:=aq HQ3.o;clear bA HQ3 Tu cJ HG3;go_upto_region 4 with(fail);generalize hW4:World.alloc w3 _=W4 at *;generalize Ms:w3.heap.size=Bg at *;clear hW4;have hbg4:=aq Mj.o;have bA:=ae W4 (.cells (Taj r) 24);have Qp:=aa (b9 W4 (.cells (Taj r) 24));have HQ5:=Zbk bA HQ4;have as1:=aa ((bA.block _ hbg4).trans Mj.o);have aG0:=aa (aH8.o.below bA);have eK:=Zbl eI bA;have HG5:=aa (HG4.o.keep (cR.bl bA));have qL:=mi HQ4.o;obtain⟨q0,q1,q2,q3,q4,q5,q6⟩:=se qL;clear qL bA HQ4 Mj aH8 eI HG4;go_upto_region 5 with(fail);clear q0 q1 q2 q3 q4 q5 q6;generalize hW5:World.alloc W4 _=W5 at *;generalize hBx:W4.heap.size=Bx at *;clear hW5;refine LJ _ W5 Bq Bx r HQ5.o Qp.o TcN (aa ?_) (fun _ _ _ _ _ h=>h);intro e p W6 u26 u27 u28 u29 u30 u31 u32 u33 u34 u35 u36 u37 he hp qu hm;have Qg:Hid (dK ⟨1,1,e,p,r.tag,r.near,r.sep⟩):=aa ⟨(show(-9223372036854775808:Int)<=1/\(1:Int)<=9223372036854775807 by omega),(show(-9223372036854775808:Int)<=1/\(1:Int)<=9223372036854775807 by omega),he,hp,SA.o.t,SA.o.n,SA.o.q⟩;have HQ6:=aa ((hm.block _ (by have:=aq Qp.o;omega) (show ¬Bq=Bx by omega)).trans HQ5.o);have aF0:=aa ((hm.block _ (by have:=aq Qp.o;omega) (show ¬Bg=Bx by omega)).trans as1.o);have HX6:=aa qu;have h0:=aG0.o.1;have aG1:=aa (aG0.o.mod hm TcN);have Tq:=aa (eK.o.trans (hm.below eK.o.size (fun k e=>by omega)));have HG6:Hid (dN (fun _=>True) W6 g a):=aa (HG5.o.mv ⟨hm.size,fun b hb ho=>⟨trivial,hm.block b hb (show ¬b=Bx by have:=ho.2;omega)⟩⟩);have gL:=mi aF0.o;obtain⟨g0,g1,g2,g3,g4,g5,g6,g7,g8⟩:=xr gL;have qL:=mi HQ6.o;obtain⟨q0,q1,q2,q3,q4,q5,q6⟩:=se qL;clear gL qL he hp qu hm h0 HQ5 as1 aG0 eK HG5 Qp;go_wp2_with fail;clear g0 g1 g2 g3 g4 g5 g6 g7 g8 q0 q1 q2 q3 q4 q5 q6;refine(kD g a r k W6 HG6.o XT.o I3.o SA.o RL.o Oj.o HK.o aG1.o).mono ?_;rintro e' w7 ⟨rfl,hb7⟩;have aH9:=Zbk hb7 aF0;have MT:=Zbk hb7 HX6;have aG2:=aa (aG1.o.below hb7);have ux:=Zbl Tq hb7;have HG7:=aa (HG6.o.mv (Mv.of hb7));have gL:=mi aH9.o;obtain⟨g0,g1,g2,g3,g4,g5,g6,g7,g8⟩:=xr gL;have qL:=mi MT.o;obtain⟨q0,q1,q2,q3,q4,q5,q6⟩:=se qL;clear gL qL hb7 HQ6 aF0 HX6 aG1 Tq HG6;go_wp2_with fail;clear g0 g1 g2 g3 g4 g5 g6 g7 g8 q0 q1 q2 q3 q4 q5 q6;refine(kD g a ⟨1,1,e,p,r.tag,r.near,r.sep⟩ k w7 HG7.o XT.o I3.o Qg.o RL.o Oj.o HK.o aG2.o).mono ?_;rintro e' w8 ⟨rfl,hb8⟩;have aJ9:=aa (aG2.o.below hb8);have Ix:=Zbl ux hb8;clear hb8 aH9 MT aG2 ux HG7;go_wp2_with fail;refine(wR w8 aJ9.o).mono ?_;rintro e' w9 ⟨rfl,hb9⟩;have TF:=Zbl Ix hb9;clear hb9;go_wp2;go_ret;exact⟨rfl,TF.o⟩
open Go.ChangeShapes Go.WideShapes Go.ChangeAt
variable {H:Type}{W:World}{base b0:Nat}{sp:Nat->Bool}{held:Bool}{v:Value}{ps:List MemPlace}
theorem L6{enc:TypeId × Value->H}{d:DataW H}{u:TypeId}{fs:Array Field}
  (hu:prog.underlying u=some (.struct fs)) (hs:fs.map (fun f=>(f.type,f.offset))=#[(3,0),(3,1),(3,2),(3,3),(9,4),(9,5),(9,6)]) (h7:prog.cellsOf u=7) (k1:prog.cellsOf 3=1) (k2:prog.cellsOf 9=1)
  (hval:Value.okWide prog W .any base u v) (h:DataW.Trod enc prog W b0 sp held u v d ps):∃r:aY,v=.agg (Taj r)/\dK r:=by
 obtain⟨cs,rfl,hsz⟩:=okWide_struct hu hval;obtain⟨fuel,h⟩:=h;obtain⟨xs,n,-,-,-,vh,hf⟩:=DataW.trod_struct hu h;rw[h7]at hsz;obtain⟨l⟩:=cs;have key:∀(i:Nat) (t:TypeId) (c:Value),(fs.map (fun f=>(f.type,f.offset)))[i]?=some (t,i)->prog.cellsOf t=1->l[i]?=some c->∃y,DataW.trod enc prog W b0 sp held n t [c]=some y:=fun i t c h1 h2 h3=>by
  rw[Array.getElem?_map]at h1;obtain⟨f,hf',e⟩:=Option.map_eq_some_iff.1 h1;injection e with e1 e2;have h4:=hf i f hf';rw[e1,e2,h2]at h4;have hi:=(Array.getElem?_eq_some_iff.1 hf').1;obtain⟨y,hy⟩:=aj xs i TcN;refine⟨y,?_⟩;rw[hy,List.take_one,List.head?_drop]at h4;rw[<- h4,show(Value.agg ⟨l⟩).cells.toList=l from rfl,h3];rfl
 rw[hs]at key
 match l,hsz with
 |[v0,v1,v2,v3,v4,v5,v6],_ =>
  obtain⟨y0,g0⟩:=key 0 _ _ rfl k1 rfl;obtain⟨y1,g1⟩:=key 1 _ _ rfl k1 rfl;obtain⟨y2,g2⟩:=key 2 _ _ rfl k1 rfl;obtain⟨y3,g3⟩:=key 3 _ _ rfl k1 rfl;obtain⟨y4,g4⟩:=key 4 _ _ rfl k2 rfl;obtain⟨y5,g5⟩:=key 5 _ _ rfl k2 rfl;obtain⟨y6,g6⟩:=key 6 _ _ rfl k2 rfl;obtain⟨n0,e0,-,w0⟩:=DataW.trod_int underlying3 g0;obtain⟨n1,e1,-,w1⟩:=DataW.trod_int underlying3 g1;obtain⟨n2,e2,-,w2⟩:=DataW.trod_int underlying3 g2;obtain⟨n3,e3,-,w3⟩:=DataW.trod_int underlying3 g3;obtain⟨s4,e4,-,w4⟩:=DataW.trod_string underlying9 g4;obtain⟨s5,e5,-,w5⟩:=DataW.trod_string underlying9 g5;obtain⟨s6,e6,-,w6⟩:=DataW.trod_string underlying9 g6;simp only[rp,and_true]at e0 e1 e2 e3 e4 e5 e6;subst e0;subst e1;subst e2;subst e3;subst e4;subst e5;subst e6;exact⟨⟨n0,n1,n2,n3,s4,s5,s6⟩,rfl,wf_i64 w0,wf_i64 w1,wf_i64 w2,wf_i64 w3,w4,w5,w6⟩
theorem Mc{enc:TypeId × Value->H}{d:DataW H}
  (hval:Value.okWide prog W .any base 24 v) (h:DataW.Trod enc prog W b0 sp held 24 v d ps):∃r:aY,v=.agg (Taj r)/\dK r :=
 L6 underlying24 TcP TcP TcP TcP hval h
open Go.WideMaps Go.WideElems
def nC{H : Type} : List (String × DataW H) := [("volumegroup/names.suffixes", Rows.laid_volumegroup_names_suffixes)]
theorem BU : prog.globalNamed "volumegroup/names.suffixes" = some 0 := by kernel_rfl
theorem BB:(prog.globals[0]?).map (·.type)=some 211:=by kernel_rfl
theorem Cj(os:Os)(args:Array Value):laidMetH prog nC ((World.doorLaid prog 400 os).forCall (fun _ _=>0) ⟨#[],args,[]⟩).memory :=
 laidMetH_of_parts3 (fuel:=8) (laidMet_of_run' 8 TcP TcP) TcP TcP
theorem vW{W:World}(h:laidMetH prog nC W):AW W:=by
 rw[MakeChecks.laidMetH_plain _ _ _ TcP]at h;obtain⟨ps,⟨g0,t0,cs0,f0,p0,q0,hg0,ht0,hv0,hd0,_,_⟩,_,_⟩:=h;obtain rfl:=gj (BU.symm.trans hg0);obtain rfl:=gj (BB.symm.trans ht0);obtain⟨xs,m1,rfl,hx1,hlen,hn,Vh⟩:=DataW.trod_array underlying211 hd0;have c1:prog.cellsOf 9=1:=by kernel_rfl
 have c5:prog.cellsOf 211=5:=by kernel_rfl
 simp only[Prod.mk.injEq,DataW.agg.injEq]at hx1;rw[c5]at hlen;have hx2:=hx1.1;unfold Rows.laid_volumegroup_names_suffixes at hx2;injection hx2 with hx2;obtain⟨l⟩:=cs0;have hl:l.length=5:=by simpa using hlen
 have key:∀(i:Nat) (s:List UInt8),([] :: nV)[i]?=some s->l[i]?=some (.string ⟨s.toArray⟩):=fun i s hs=>by
  have hi:i<5:=by
   have:=(List.getElem?_eq_some_iff.1 hs).1;simpa[nV]using this
  have he:=Vh i hi;obtain⟨x,hx⟩:=aj xs i TcN;rw[hx,c1]at he;obtain⟨t,e1,e2,_⟩:=DataW.trod_string underlying9 he;have QF:(xs.map (·.1))[i]?=some x.1:=by rw[rI,hx];rfl
  rw[<- hx2,e2]at QF;have h1:l[i]?=some (.string t):=by
   have:=fj (fun z:List Value=>z[0]?) e1;simpa[xF,pk]using this
  have h2:t.data.toList=s:=by
   rcases(show i=0\/i=1\/i=2\/i=3\/i=4 by omega)with rfl|rfl|rfl|rfl|rfl <;>
    (have e3:=gj hs;subst e3;simpa[Rows.laid_volumegroup_names_suffixes]using QF.symm)
  rw[h1,bytes_eta t,h2]
 have hlt:0<W.heap.size:=by
  have:=World.var?_cell hg0 hv0 0;have h0:=key 0 [] rfl;have hc:W.cell? (Tac 0 0)=some (.string ⟨#[]⟩):=by simpa[h0]using this
  exact Nat.pos_of_ne_zero fun e=>by simp[World.cell?,xp (by omega:W.heap.size<=0)]at hc
 refine⟨hlt,fun i s hs=>?_⟩;have:=World.var?_cell hg0 hv0 i;rw[this];simpa using key i s hs
end Go.Proofs.YtillcmhjhajimaaGreatDoor
