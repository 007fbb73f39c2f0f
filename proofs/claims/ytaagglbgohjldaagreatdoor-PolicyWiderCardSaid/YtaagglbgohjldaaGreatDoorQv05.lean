/- Lemmas: MkI, Nam, NamB. -/
import Derived.Test.YtaagglbgohjldaaGreatDoorQv03
import Derived.Test.YtaagglbgohjldaaGreatDoorQv04
import Derived.Test.YtaagglbgohjldaaGreatDoorShelf
set_option maxRecDepth 100000
set_option maxHeartbeats 32000000
set_option linter.all false
namespace Go.Proofs.YtaagglbgohjldaaGreatDoor
open Go.Proofs.Tryz
open Go.RowKit
variable {Gb:List az}{a b next:List Int}{p:List (ByteArray × Int × Int)}{X:Nat->Prop}{w:World}{bs bb:Nat}{nv vv:Value}{g:af}
def es:ByteArray:=⟨#[]⟩
def dE (n:Int)(on:ByteArray)(s:Int):aB:=⟨0,n,1,[⟨false,on,s⟩],0,[],es,es,0,0,0⟩
def eD (name:ByteArray)(id:Int)(hidden:Bool)(n:Int)(on:ByteArray)(s:Int):ay:=⟨name,id,hidden,false,[],[dE n on s]⟩
inductive fZ (Gb:List az):List Int->List (ByteArray × Int × Int)->List Int->Prop
 | nil (next:List Int):fZ Gb next [] next
 | snoc {next next1:List Int} {ps:List (ByteArray × Int × Int)} {d:Nat} {D:az} {m s n:Int} (h:fZ Gb next ps next1) (hd:Gb[d]?=some D) (hm:next1[d]?=some m) (h1:m<=s) (h2:s+n<=D.Gc) (h3:1<=n):fZ Gb next (ps++[(D.name,s,n)]) (next1.set d (s+n))
theorem fZ.trans {c:List Int}{q:List (ByteArray × Int × Int)}(h:fZ Gb a p b)(k:fZ Gb b q c):fZ Gb a (p++q) c:=by
 induction k with
 | nil=>simpa using h
 | snoc k hd hm h1 h2 h3 ih =>
  rw [<- cV];exact .snoc ih hd hm h1 h2 h3
structure DOk (Gb:List az)(next:List Int):Prop where
 len:next.length=Gb.length
 pos:0<Gb.length
 le:Gb.length<=8
 ext:∀ D∈Gb,0<=D.Gc/\D.Gc<=1000
 nx:∀ (d:Nat) (m:Int),next[d]?=some m->0<=m/\m<=1000
theorem fZ.ok (h:fZ Gb a p b)(k:DOk Gb a):DOk Gb b:=by
 induction h with
 | nil=>exact k
 | @snoc next1 ps d D m s n h hd hm h1 h2 h3 ih =>
  refine ⟨by simp [ih.len],ih.pos,ih.le,ih.ext,fun e x hx=>?_⟩;rw [List.getElem?_set] at hx;split at hx
  ·split at hx
   ·injection hx with hx;have:=ih.nx d m hm;have:=ih.ext D (ct hd);omega
   cases hx
  exact ih.nx e x hx
structure Ld (g:af)(next:List Int):Prop where
 dk:DOk g.Gb next
 n0:0<=g.next
 n1:g.next<=100000
 vl:g.F9.length<=100
def Fz (w:World)(vv:Value)(n:Nat):Prop:=∃ vb vc sb,vv=.slice (some ⟨vb,0,none⟩) (n+1) vc/\w.cell? ⟨vb,n*6+5,none⟩=some (.slice (some ⟨sb,0,none⟩) 1 1)
def F3 (X:Nat->Prop)(bs bb:Nat)(nv vv:Value)(g:af)(next:List Int)(name:ByteArray)(hidden:Bool)(n:Int)(w:World)(e:Ending)(w':World):Prop :=
 (e=.returned (.bool false)/\aH X bs bb nv vv w w' nv vv { g with next:=g.next+1 } next) \/
 ∃ (on:ByteArray) (s:Int) (next':List Int) (pA:Value),fZ g.Gb next [(on,s,n)] next'/\e=.returned (.bool true) /\
  aH X bs bb nv vv w w' nv pA { g with next:=g.next+1,F9:=g.F9++[eD name (oX g.id (g.next+1)) hidden n on s] } next'/\Fz w' pA g.F9.length
def fD (X:Nat->Prop)(L:Nat):Nat->Prop:=fun k=>X k\/k=L
theorem CU {o:Obj}{L:Nat}(hL:L=w.heap.size):∀ k,fD X L k->X k\/(w.heap.size<=k/\k<(w.alloc o).heap.size):=by
 rintro k (h | rfl)
 ·exact .inl h
 exact .inr ⟨TcC,TcH⟩
theorem ae (w:World)(o:Obj):Below w.heap.size w (w.alloc o):=(bj _ _).alloc (bk _) _
theorem qM {b:Nat}(hb:b<w.heap.size)(o p q:Obj):(((w.alloc o).alloc p).alloc q).heap[b]?=w.heap[b]?:=by
 rw [cj _ _ _ TcH,cj _ _ _ TcH,cj _ _ _ hb]
theorem eW.c7 (h:eW X w bs bb nv vv g next):∃ p ir,w.cell? (Tac bb 7)=some (.slice p g.Gb.length ir)/\g.Gb.length<=ir/\ir<=9223372036854775807:=by
 obtain ⟨tv,dv,hv,e,_,h2,_⟩:=h.blk;obtain ⟨p,ir,ed,k1,k2,k3⟩:=h2;simp only [rp,and_true] at ed;subst ed;exact ⟨p,ir,cr e _ _ rfl,k1,k2⟩
theorem Tcj {p:Prop}(h:p:=by
 obtain ⟨tv,dv,hv,e,_,h2,_⟩:=h.blk;simp [World.cell?,e]):p:=h
theorem eW.c8 (h:eW X w bs bb nv vv g next):w.cell? (Tac bb 8)=some vv:=by
 exact Tcj
theorem eW.bfr (h:eW X w bs bb nv vv g next)(i:Nat):w.frozen? (bb,i)=false:=by
 obtain ⟨tv,dv,hv,e,_,h2,_⟩:=h.blk;simp [World.frozen?,e]
def TaI (x0:ByteArray)(x1:Int)(x2:Bool)(x3:Option Addr):Tab #[.string x0,.int .u64 x1,.bool x2,.bool false,.slice none 0 0,.slice x3 1 1]:=⟨⟩
theorem TcI {p:Prop}(h:p:=by rfl):p:=h
theorem TcQ {p:Prop}(h:p:=by simp [Value.oneCell']):p:=h
theorem qw (X:Nat->Prop)(bs bb:Nat)(nv vv:Value)(g:af)(next:List Int)(w:World)(h:eW X w bs bb nv vv g next)(hk:Ld g next)(name:ByteArray)(hidden:Bool)(d0:Nat)(n:Int)(hd0:d0<=100)(hn0:1<=n)(hn1:n<=1000000) :
  Calls prog 19 #[.pointer (some bb),.string name,.bool hidden,.int .i64 d0,.int .i64 n] w (F3 X bs bb nv vv g next name hidden n w):=by
 have k0:=hk.n0;have k1:=hk.n1;have k2:=hk.dk.pos;have k3:=hk.dk.le;have k4:=hk.vl;go_enter func19,ntmps19
 go_wp2_with fail;refine (vS X bs bb nv vv g next _ h TcC TcC).mono ?_;rintro e w1 ⟨rfl,P1⟩;generalize hid:oX g.id (g.next+1)=mz;have Mp:=aa hid;clear hid;go_wp2;have P2:=P1.fresh (Y:=fD X w1.heap.size) (ae w1 (.cells #[.string name,.int .u64 mz,.bool hidden,.bool false,.slice none 0 0,.slice none 0 0] 68)) (CU rfl);have HL:=aa (b9 w1 (.cells #[.string name,.int .u64 mz,.bool hidden,.bool false,.slice none 0 0,.slice none 0 0] 68));have TP:=P1.mod.size;generalize hL:w1.heap.size=L at *;have ZM:=aa hL;clear hL;go_loopw [12] (fun i wr=>∃ k:Nat,k<=g.Gb.length/\i=.int .i64 k/\aH (fD X L) bs bb nv vv w wr nv vv { g with next:=g.next+1 } next/\wr.heap[L]?=some (.cells #[.string name,.int .u64 mz,.bool hidden,.bool false,.slice none 0 0,.slice none 0 0] 68 (0,0))) (fun i _=>g.Gb.length - (intOf i).toNat)
 exact ⟨0,TcC,rfl,P2,HL.o⟩;obtain ⟨k,hkl,rfl,P,K0⟩:=hrel;have NQ:=aa K0;clear K0;obtain ⟨dp,ir,c7,l1,l2⟩:=P.bld.c7;simp only at c7 l1;by_cases hlt:k<g.Gb.length
 ·have oY:((d0:Int)+(k:Int)) % (g.Gb.length:Int)=(((d0+k) % g.Gb.length:Nat):Int):=by simp
  have CD:(d0+k) % g.Gb.length<g.Gb.length:=Nat.mod_lt _ k2;generalize hd:(d0+k) % g.Gb.length=d at *;have ZN:=aa hd;clear hd;obtain ⟨D,hD⟩:=aj g.Gb d CD;obtain ⟨m,hm⟩:=aj next d (by rw [hk.dk.len];exact CD);have QK:=hk.dk.nx d m hm;have HD:=aa hD;clear hD;have HM:=aa hm;clear hm;go_wp2_with fail;refine (qR (fD X L) bs bb nv vv _ next _ P.bld d D m n HD.o HM.o QK.1 TcC TcC hn1).mono ?_;rintro e w2 (⟨rfl,Q,_⟩ | ⟨s,hs1,hs2,rfl,Q,_⟩)
  ·go_wp2;go_roundw;exact ⟨k+1,TcC,TcG,(P.trans Q).after (ae _ _),(cj _ _ _ (by have:=Q.mod.size;have:=aq NQ.o;omega)).trans ((Q.loc P.bld (.inr rfl)).trans NQ.o)⟩;simp [intOf];omega
  have R2:=P.trans Q;have TQ:=aa ((Q.loc P.bld (.inr rfl)).trans NQ.o);have MM:L<w2.heap.size:=aq TQ.o;have ZO:∀ o p q,(((w2.alloc o).alloc p).alloc q).cell? (Tac L 5)=some (.slice none 0 0):=fun o p q=>by simp [World.cell?,qM MM,TQ.o]
  have ZP:∀ o p q,(((w2.alloc o).alloc p).alloc q).frozen? (Tac L 5)=false:=fun o p q=>by simp [World.frozen?,qM MM,TQ.o]
  go_wp2;clear ZO ZP;generalize hW:World.setCell (World.alloc (World.alloc (World.alloc w2 _) _) _) _ _=W;have R4:aH (fD X L) bs bb nv vv w W nv vv { g with next:=g.next+1 } (next.set d (s+n)):=by
   rw [<- hW];exact (((R2.after (ae _ _)).after (ae _ _)).after (ae _ _)).put L 5 _ (.inr rfl) TP
  have U2:W.heap[L]?=some (.cells (TaI name mz hidden (some ⟨w2.heap.size+1+1,0,none⟩)) 68 (0,0)):=by
   rw [<- hW];exact block_setCell (cs:=#[_,_,_,_,_,_]) (i:=5) _ ((qM MM _ _ _).trans TQ.o)
  have DA:W.heap[w2.heap.size+1]?=some (.cells [.bool false,.string D.name,.int .i64 s].toArray 53 (0,0)):=by
   rw [<- hW,bw _ _ _ _ TcH,cj _ _ _ TcD];have:=b9 (w2.alloc (.cells (Tas D.name s) 53)) (.cells (Tas D.name s) 53);rw [cW] at this;exact this
  have X2:W.heap[w2.heap.size+1+1]?=some (.cells [.int .i64 0,.int .i64 n,.int .i64 1,.slice (some (Tac (w2.heap.size+1) 0)) 1 1,.int .i64 0,.slice none 0 0,.string es,.string es,.int .i64 0,.int .i64 0,.int .i64 0].toArray 114 (0,0)):=by
   rw [<- hW,bw _ _ _ _ TcH];have:=b9 ((w2.alloc (.cells (Tas D.name s) 53)).alloc (.cells (Tas D.name s) 53)) (.cells #[.int .i64 0,.int .i64 n,.int .i64 1,.slice (some (Tac (w2.heap.size+1) 0)) 1 1,.int .i64 0,.slice none 0 0,.string es,.string es,.int .i64 0,.int .i64 0,.int .i64 0] 114);rw [cW,cW] at this;exact this
  have RV:aN (okB (fD X L) bb nv vv) W [.string name,.int .u64 mz,.bool hidden,.bool false,.slice none 0 0,.slice (some (Tac (w2.heap.size+1+1) 0)) 1 1] (eD name mz hidden n D.name s) :=
   ⟨_,_,rfl,ck.nil,ck.one X2 (R2.bld.okNew TcC) rfl ⟨_,_,rfl,ck.one DA (R2.bld.okNew TcC) rfl rfl,ck.nil⟩⟩
  clear hW DA X2;obtain ⟨i0,hi,hz0,hz1,hz2⟩:=cy zT;have HI:=aa hi;clear hi;have H0:=aa hz0;clear hz0;have H1:=aa hz1;clear hz1;have H2:=aa hz2;clear hz2;have cX:=R4.bld.Gj;have U3:bb<L:=by have:=h.Gj;omega
  have q8:W.cell? (Tac bb 8)=some vv:=R4.bld.c8;have qL:=cr U2;have hne1:bb≠L:=by omega
  have hne2:L≠bb:=by omega
  have qf:W.frozen? (Tac bb 8)=false:=R4.bld.bfr 8;obtain ⟨q0,q1,q2,q3,q4,q5⟩:=sv6 qL;have ZQ:=aa qL;clear qL;have ZR:=aa U2;clear U2;have HK:=aa (fun (W1 W2:World) (gb cap:Nat) hb hp=>R4.bld.pushKeeps (N:=W.heap.size) (p:=eD name mz hidden n D.name s) (u:=[.string name,.int .u64 mz,.bool hidden,.bool false,.slice none 0 0,.slice (some (Tac (w2.heap.size+1+1) 0)) 1 1]) (w1:=W1) (w2:=W2) (gb:=gb) (cap:=cap) hb hp);have QL:=aa (R4.bld.ready RV);have ZT:=aa (fun (W1 W2:World) (gb cap:Nat) hb hp=>R4.push (N:=W.heap.size) (p:=eD name mz hidden n D.name s) (u:=[.string name,.int .u64 mz,.bool hidden,.bool false,.slice none 0 0,.slice (some (Tac (w2.heap.size+1+1) 0)) 1 1]) (w1:=W1) (w2:=W2) (gb:=gb) (cap:=cap) hb hp (bk _));refine aL (fun w'=>w'.cell? (Tac bb 8)=some vv/\w'.cell? L=some (.string name)/\w'.cell? (Tac L 1)=some (.int .u64 mz)/\w'.cell? (Tac L 2)=some (.bool hidden)/\w'.cell? (Tac L 3)=some (.bool false)/\w'.cell? (Tac L 4)=some (.slice none 0 0)/\w'.cell? (Tac L 5)=some (.slice (some (Tac (w2.heap.size+1+1) 0)) 1 1)) 8 [0,1,2,3,4] TcE (by simp [q8,q0,q1,q2,q3,q4,q5]) (fun hHeld=>?_);refine fz 0 ?_;refine fz 1 ?_;refine fz 2 ?_;refine fz 3 ?_;refine fz 4 ?_;refine fS 5 hHeld ?_;refine fS 6 hHeld ?_;refine lR 7 fun K hK=>?_;go_simp;have jn:Below W.heap.size W ((W.alloc (.cells (TaI name mz hidden (some ⟨w2.heap.size+1+1,0,none⟩)) 68)).drew):=(ae _ _).drew
  have QM:∀ (j:Nat) (y:Value),[Value.string name,.int .u64 mz,.bool hidden,.bool false,.slice none 0 0,.slice (some (Tac (w2.heap.size+1+1) 0)) 1 1][j]?=some y->((W.alloc (.cells (TaI name mz hidden (some ⟨w2.heap.size+1+1,0,none⟩)) 68)).drew).cell? ⟨W.heap.size,j,none⟩=some y:=fun j y hy=>by
   show (W.alloc _).cell? _=_;exact aD rfl TcX
  have mA:W.heap.size+1=((W.alloc (.cells (TaI name mz hidden (some ⟨w2.heap.size+1+1,0,none⟩)) 68)).drew).heap.size:=by simp
  have X3:∀ w':World,w'.heap[bb]?=W.heap[bb]?->w'.heap[L]?=W.heap[L]?->w'.cell? (Tac bb 8)=some vv/\w'.cell? L=some (.string name)/\w'.cell? (Tac L 1)=some (.int .u64 mz)/\w'.cell? (Tac L 2)=some (.bool hidden)/\w'.cell? (Tac L 3)=some (.bool false)/\w'.cell? (Tac L 4)=some (.slice none 0 0)/\w'.cell? (Tac L 5)=some (.slice (some (Tac (w2.heap.size+1+1) 0)) 1 1):=fun w' e1 e2 =>
   ⟨(cd (w:=W) e1).trans q8,(cd (w:=W) e2).trans q0,(cd (w:=W) e2).trans q1,(cd (w:=W) e2).trans q2,(cd (w:=W) e2).trans q3,(cd (w:=W) e2).trans q4,(cd (w:=W) e2).trans q5⟩
  generalize hW1:(W.alloc (.cells (TaI name mz hidden (some ⟨w2.heap.size+1+1,0,none⟩)) 68)).drew=W1 at *;clear hW1;refine hK.o _ _ (X3 _ (jn.block bb cX) (jn.block L (aq ZR.o))) ?_;clear hK K;refine aP TcE rfl ?_;simp only [cQ,cL];refine dX aN.moves underlying28 HI.o H0.o H1.o H2.o rfl TcF TcF rfl _ _ TcI (bb+1) (fun b=>okB (fD X L) bb nv vv b/\b<W.heap.size) vv g.F9 (eD name mz hidden n D.name s) TcI (QL.o _ jn).1 W.heap.size 1 [.string name,.int .u64 mz,.bool hidden,.bool false,.slice none 0 0,.slice (some (Tac (w2.heap.size+1+1) 0)) 1 1] TcI TcI (QL.o _ jn).2 TcQ QM TcC TcC H8 (fun gb cap w3 hp=>?_);obtain ⟨hx1,hx2⟩:=HK.o _ w3 gb cap jn hp;have y8:=(cd (w:=W) (w':=w3) (a:=⟨bb,8,none⟩) hx1).trans q8;have yf:=(rh (w:=W) (w':=w3) (a:=⟨bb,8,none⟩) hx1).trans qf;have R5:=ZT.o _ w3 gb cap jn hp;have NR:=hp.last 5 _ rfl;have QN:=aa NR;clear NR;have cJ:=aa hx1;have hgb:gb≠bb:=by
   rintro rfl;obtain ⟨cs,ho,_⟩:=hp.own;have:=(ho.lt gb rfl).1;omega
  clear hp hx1 hx2 X3 QM;simp only [aS];go_wp2;go_ret;have hv:=Mp.o;subst hv;refine .inr ⟨D.name,s,_,_,.snoc (.nil _) HD.o HM.o hs1 hs2 hn0,rfl,R5.fewer (fun k hk=>.inl hk),gb,cap,w2.heap.size+1+1,rfl,?_⟩;exact (cd (w:=w3) (bw _ _ _ _ hgb)).trans QN.o
 go_wp2;go_ret;exact .inl ⟨rfl,P.fewer (fun k hk=>.inl hk)⟩
def UU (a k:Int):Int:=bits BinOp.or IntKind.u64 a (IntKind.u64.wrap (2 ^ k.toNat))
def wD (s:Int × Int)(c:Int):Int × Int:=if c<64 then (UU s.1 (c % 64),s.2) else (s.1,UU s.2 (c % 64))
def gz (w:World)(b:Nat)(s:Int × Int):Prop:=w.heap[b]?=some (.cells #[.int .u64 s.1,.int .u64 s.2] 160 (0,0))
theorem pQ (c:Int)(s:Int × Int)(b:Nat)(w:World)(h0:0<=c)(h1:c<128)(hb:gz w b s) :
  Calls prog 159 #[.int .u8 c,.pointer (some b)] w fun e w'=>e=.returned (.tuple #[])/\gz w' b (wD s c)/\cR (fun i=>i=b) w w':=by
 have c0:w.cell? b=some (.int .u64 s.1):=by simp [World.cell?,show w.heap[b]?=_ from hb]
 have f0:w.frozen? b=false:=by simp [World.frozen?,show w.heap[b]?=_ from hb]
 have c1:w.cell? (Tac b 1)=some (.int .u64 s.2):=by simp [World.cell?,show w.heap[b]?=_ from hb]
 have f1:w.frozen? (Tac b 1)=false:=by simp [World.frozen?,show w.heap[b]?=_ from hb]
 have HB:=aa hb;clear hb;by_cases hc:c<64
 ·have hq:c / 64=0:=by omega
  go_enter func159,ntmps159;go_wp2
  go_end0
  refine ⟨rfl,?_,(cR.refl (fun i=>i=b) w).setCell (p:=b) (.inl rfl) _⟩;have:=block_setCell (i:=0) (.int .u64 (UU s.1 (c % 64))) HB.o;unfold gz wD;rw [aw hc];exact this
 have hq:c / 64=1:=by omega
 go_enter func159,ntmps159;go_wp2
 go_end0
 refine ⟨rfl,?_,(cR.refl (fun i=>i=b) w).setCell (p:=⟨b,1,none⟩) (.inl rfl) _⟩;have:=block_setCell (i:=1) (.int .u64 (UU s.2 (c % 64))) HB.o;unfold gz wD;rw [bh TcC];exact this
def mK:Nat->Int × Int
 | 0=>(0,0)
 | k+1=>wD (wD (mK k) (97+k)) (65+k)
def BI (s:Int × Int):Nat->Int × Int
 | 0=>s
 | k+1=>wD (BI s k) (48+k)
def xE (s:Int × Int)(l:List UInt8):Int × Int:=l.foldl (fun s c=>wD s c.toNat) s
def setS (l:List UInt8):Int × Int:=xE (BI (mK 26) 10) l
theorem gz.lt {b:Nat}{s:Int × Int}(h:gz w b s):b<w.heap.size:=aq h
theorem yD (s:Int × Int)(l:List UInt8)(k:Nat)(c:UInt8)(h:l[k]?=some c):xE s (l.take (k+1))=wD (xE s (l.take k)) c.toNat:=by
 rw [take_snoc' l k c h,xE,List.foldl_append];rfl
theorem Td8 {p:Prop}(h:p:=by intro i hi;omega):p:=h
theorem qy (s:ByteArray)(w:World)(hl:∀ c∈s.data.toList,c.toNat<128)(hn:s.size<=100) :
  Calls prog 110 #[.string s] w fun e w'=>e=.returned (.agg #[.int .u64 (setS s.data.toList).1,.int .u64 (setS s.data.toList).2])/\Below w.heap.size w w':=by
 have HL:=aa hl;clear hl;go_enter func110,ntmps110;go_wp2
 go_loopw [5] (fun c wr=>∃ k:Nat,k<=26/\c=.int .u8 (97+k)/\gz wr (w.heap.size+1) (mK k)/\gz wr w.heap.size (0,0)/\Below w.heap.size w wr) (fun c _=>123 - (intOf c).toNat)
 case atStart =>
  refine ⟨0,TcC,rfl,?_,?_,((bj _ _).alloc (bk _) _).alloc TcD _⟩
  ·have:=b9 (w.alloc (.cells #[.int .u64 0,.int .u64 0] 160)) (.cells #[.int .u64 0,.int .u64 0] 160);rw [cW] at this;exact this
  exact (cj _ _ _ TcD).trans (b9 w _)
 obtain ⟨k,hk,rfl,hs,hr,hB⟩:=hrel;have HR:=aa hr;clear hr;have HS:=aa hs;clear hs;by_cases hlt:k<26
 ·go_wp2_with fail;refine (pQ (97+(k:Int)) (mK k) _ _ TcC TcC HS.o).mono ?_;rintro e w1 ⟨rfl,hs1,hm1⟩;have HR1:Hid (gz w1 w.heap.size (0,0)):=aa ((hm1.block _ HR.o.lt TcC).trans HR.o);have HS1:=aa hs1;clear hs1;have hB1:Below w.heap.size w w1:=hB.trans (hm1.below hB.size Td8);clear hB hm1;go_wp2_with fail;refine (pQ (97+(k:Int) - 97+65) _ _ _ TcC TcC HS1.o).mono ?_;rintro e w2 ⟨rfl,hs2,hm2⟩;have E3:Hid (gz w2 w.heap.size (0,0)):=aa ((hm2.block _ HR1.o.lt TcC).trans HR1.o);have HS2:=aa hs2;clear hs2;have hB2:Below w.heap.size w w2:=hB1.trans (hm2.below hB1.size Td8);clear hB1 hm2;go_wp2;go_roundw
  case rel =>
   refine ⟨k+1,TcC,TcG,?_,E3.o,hB2⟩;have:=HS2.o;rw [show (97+(k:Int) - 97+65)=65+k from by omega] at this;exact this
  simp [intOf];omega
 have HS26:Hid (gz wr (w.heap.size+1) (mK 26)):=aa (by have:=HS.o;rwa [show k=26 from by omega] at this);clear HS;have HS:=HS26;go_wp2;go_loopw [6] (fun c wr=>∃ k:Nat,k<=10/\c=.int .u8 (48+k)/\gz wr (w.heap.size+1) (BI (mK 26) k)/\gz wr w.heap.size (0,0)/\Below w.heap.size w wr) (fun c _=>58 - (intOf c).toNat)
 exact ⟨0,TcC,rfl,HS.o,HR.o,hB⟩;clear HR HS hB HS26;have hk26:=hk;clear hk;rename_i hlt26;obtain ⟨k,hk,rfl,hs,hr,hB⟩:=hrel;have HR:=aa hr;clear hr;have HS:=aa hs;clear hs;by_cases hlt:k<10
 ·go_wp2_with fail;refine (pQ (48+(k:Int)) _ _ _ TcC TcC HS.o).mono ?_;rintro e w1 ⟨rfl,hs1,hm1⟩;have HR1:Hid (gz w1 w.heap.size (0,0)):=aa ((hm1.block _ HR.o.lt TcC).trans HR.o);have HS1:=aa hs1;clear hs1;have hB1:Below w.heap.size w w1:=hB.trans (hm1.below hB.size Td8);clear hB hm1;go_wp2;go_roundw;exact ⟨k+1,TcC,TcG,HS1.o,HR1.o,hB1⟩;simp [intOf];omega
 have HS10:Hid (gz wr (w.heap.size+1) (BI (mK 26) 10)):=aa (by have:=HS.o;rwa [show k=10 from by omega] at this);clear HS;have HS:=HS10;go_wp2;go_loopw [30,7] (fun i _ wr=>∃ k:Nat,k<=s.size/\i=.int .i64 k/\gz wr (w.heap.size+1) (xE (BI (mK 26) 10) (s.data.toList.take k))/\gz wr w.heap.size (0,0)/\Below w.heap.size w wr) (fun i _ _=>s.size - (intOf i).toNat)
 exact ⟨0,cg _,rfl,HS.o,HR.o,hB⟩;clear HR HS hB HS10;have hk10:=hk;clear hk;rename_i hlt10;obtain ⟨k,hk,rfl,hs,hr,hB⟩:=hrel;have HR:=aa hr;clear hr;have HS:=aa hs;clear hs;by_cases hlt:k<s.size
 ·have hc:s.data.toList[k]?=some s[k]:=by
   rw [lO Tea];rfl
  have hc1:=HL.o _ (ct hc);have HM:=aa (yD (BI (mK 26) 10) _ k _ hc);clear hc;go_wp2_with fail;refine (pQ _ _ _ _ TcC TcC HS.o).mono ?_;rintro e w1 ⟨rfl,hs1,hm1⟩;have HR1:Hid (gz w1 w.heap.size (0,0)):=aa ((hm1.block _ HR.o.lt TcC).trans HR.o);have HS1:=aa hs1;clear hs1;have hB1:Below w.heap.size w w1:=hB.trans (hm1.below hB.size Td8);clear hB hm1;go_wp2;go_roundw;exact ⟨k+1,TcC,TcG,by rw [HM.o];exact HS1.o,HR1.o,hB1⟩;simp [intOf];omega
 obtain rfl:k=s.size:=by omega
 have hm:gz wr (w.heap.size+1) (setS s.data.toList):=by
  have:=HS.o;rwa [jz TcD] at this
 have m0:wr.cell? (Tac (w.heap.size+1) 0)=some (.int .u64 (setS s.data.toList).1):=by simp [World.cell?,show wr.heap[w.heap.size+1]?=_ from hm]
 have m1:wr.cell? (Tac (w.heap.size+1) 1)=some (.int .u64 (setS s.data.toList).2):=by simp [World.cell?,show wr.heap[w.heap.size+1]?=_ from hm]
 have f0:wr.frozen? w.heap.size=false:=by simp [World.frozen?,show wr.heap[w.heap.size]?=_ from HR.o]
 have f1:wr.frozen? (Tac w.heap.size 1)=false:=by simp [World.frozen?,show wr.heap[w.heap.size]?=_ from HR.o]
 have r0:wr.cell? w.heap.size=some (.int .u64 0):=by simp [World.cell?,show wr.heap[w.heap.size]?=_ from HR.o]
 have r1:wr.cell? (Tac w.heap.size 1)=some (.int .u64 0):=by simp [World.cell?,show wr.heap[w.heap.size]?=_ from HR.o]
 clear hm;go_wp2;refine eC (v:=.agg #[.int .u64 (setS s.data.toList).1,.int .u64 (setS s.data.toList).2]) (by simp [results,Tryz.results110,go_sem,r0,r1,m0,m1]) rfl ⟨rfl,(hB.setCell (p:=w.heap.size) (bk _) _).setCell (p:=⟨w.heap.size,1,none⟩) (bk _) _⟩
def Ei (s:Int × Int)(c:Nat):Bool:=if c<64 then !(bits BinOp.and IntKind.u64 (s.1 / 2 ^ (c % 64)) 1 == 0) else !(bits BinOp.and IntKind.u64 (s.2 / 2 ^ (c % 64)) 1 == 0)
def kT (s:Int × Int)(c:UInt8):Bool:=decide (c.toNat<128)&&Ei s c.toNat
def wS (t:Int × Int)(s:ByteArray):Bool:=s.data.toList.all (kT t)
theorem Teg {p:Prop}(h:p:=by simpa using (List.getElem?_eq_some_iff.1 hj).1):p:=h
theorem zP (t:Int × Int)(s:ByteArray)(w:World)(hn:s.size<=9223372036854775807) :
  Calls prog 111 #[.agg #[.int .u64 t.1,.int .u64 t.2],.string s] w fun e w'=>e=.returned (.bool (wS t s))/\Below w.heap.size w w':=by
 have hb:=ae w (.cells #[.int .u64 t.1,.int .u64 t.2] 160);have HB:=aa hb;clear hb;have t0:(w.alloc (.cells #[.int .u64 t.1,.int .u64 t.2] 160)).cell? w.heap.size=some (.int .u64 t.1):=aD rfl rfl;have t1:(w.alloc (.cells #[.int .u64 t.1,.int .u64 t.2] 160)).cell? (Tac w.heap.size 1)=some (.int .u64 t.2):=aD rfl rfl;go_enter func111,ntmps111;go_wp2;generalize hW:World.alloc w _=W at *;have HW:=aa hW;clear hW
 go_loop [9,5,6] (fun i _ _=>∃ k:Nat,k<=s.size/\i=.int .i64 k/\(∀ j,j<k->∀ c,s.data.toList[j]?=some c->kT t c=true)) (fun i _ _=>s.size - (intOf i).toNat)
 exact ⟨0,cg _,rfl,fun j hj=>by omega⟩;obtain ⟨k,hk,rfl,hall⟩:=hrel;have HA:=aa hall;clear hall;by_cases hlt:k<s.size
 ·have hc:s.data.toList[k]?=some s[k]:=by
   rw [lO Tea];rfl
  have HC:=aa hc;clear hc;have HU:Hid (∀ b:Bool,kT t s[k]=b->∀ j,j<k+1->∀ c,s.data.toList[j]?=some c->kT t c=b\/kT t c=true):=aa fun b hb j hj c QO=>by
   by_cases hjk:j=k
   ·subst hjk;rw [HC.o] at QO;cases QO
    exact .inl hb
   exact .inr (HA.o j TcC c QO)
  have HF:Hid (kT t s[k]=false->wS t s=false):=aa fun hf=>by
   rw [wS,lr];exact ⟨_,ct HC.o,by simp [hf]⟩
  have HI:Hid (kT t s[k]=(decide (s[k].toNat<128)&&Ei t s[k].toNat)):=aa rfl;clear HC;go_upto_region 5 with (fail);generalize hib:kT t s[k]=ib at *;generalize hcg:s[k].toNat=c at *;have HIB:=aa hib;clear hib;have HCG:=aa hcg;clear hcg;by_cases h128:(c:Int)<128
  ·by_cases h64:(c:Int)<64
   ·skip;have hq:(c:Int) / 64=0:=by omega
    have hcb:ib=!(bits BinOp.and IntKind.u64 (t.1 / 2 ^ (c % 64)) 1 == 0):=by
     rw [HI.o];simp [Ei,show c<128 by omega,show c<64 by omega]
    have nw:=aa hcb;clear hcb;cases Lf:(bits BinOp.and IntKind.u64 (t.1 / 2 ^ (c % 64)) 1 == 0) with
    | true =>
     go_wp2;go_ret;refine ⟨ah (HF.o ?_).symm,HB.o⟩;rw [nw.o,Lf];rfl
    | false =>
     go_wp2;go_round
     case rel =>
      refine ⟨k+1,TcC,TcG,fun j hj c hc=>(HU.o _ rfl j hj c hc).elim (fun h=>?_) id⟩;rw [h,nw.o,Lf];rfl
     simp [intOf];omega
   skip;have hq:(c:Int) / 64=1:=by omega
   have hcb:ib=!(bits BinOp.and IntKind.u64 (t.2 / 2 ^ (c % 64)) 1 == 0):=by
    rw [HI.o];simp [Ei,show c<128 by omega,show ¬ c<64 by omega]
   have nw:=aa hcb;clear hcb;cases Lf:(bits BinOp.and IntKind.u64 (t.2 / 2 ^ (c % 64)) 1 == 0) with
   | true =>
    go_wp2;go_ret;refine ⟨ah (HF.o ?_).symm,HB.o⟩;rw [nw.o,Lf];rfl
   | false =>
    go_wp2;go_round
    case rel =>
     refine ⟨k+1,TcC,TcG,fun j hj c hc=>(HU.o _ rfl j hj c hc).elim (fun h=>?_) id⟩;rw [h,nw.o,Lf];rfl
    simp [intOf];omega
  go_wp2;go_ret;refine ⟨ah (HF.o ?_).symm,HB.o⟩;rw [HI.o];simp [show ¬ c<128 by omega]
 obtain rfl:k=s.size:=by omega
 go_wp2;go_ret;refine ⟨ah (Eq.symm ?_),HB.o⟩;rw [wS,eL];intro c hc;obtain ⟨j,hj⟩:=fc hc;exact HA.o j Teg c hj
open Go.Shelf
variable {s:ByteArray}
def vF:Int × Int:=setS [95,46,43,45]
def zB:Int × Int:=setS [95,46,43,45,47,61,58]
def lI (s:ByteArray):UInt8:=s.data.toList.headD 0
def qA (s:ByteArray):Bool:=decide (0<s.size)&&decide (s.size<=40)&&!((lI s).toNat == 45)&&!((lI s).toNat == 46)&&wS vF s
def mr (s:ByteArray):Bool:=decide (0<s.size)&&decide (s.size<=24)&&!((lI s).toNat == 45)&&wS zB s
theorem TbX {p:Prop}(h:p:=by
 obtain ⟨⟨l⟩⟩:=s
 cases l with
 | nil=>exact absurd h (by simp [ByteArray.size])
 | cons a l=>rfl):p:=h
theorem wH (s:ByteArray)(h:0<s.size):s[0]=lI s:=by
 exact TbX
theorem oI (h:¬ 0<s.size):s=⟨#[]⟩:=by
 obtain ⟨⟨l⟩⟩:=s;cases l with
 | nil=>rfl
 | cons a l=>exact absurd (by simp [ByteArray.size]) h
theorem lS (h:0<s.size):s.toList.isEmpty=false:=by
 rw [A6];exact TbX
theorem Zbk {w w':World}{b:Nat}{x:Obj}(hb:Below w.heap.size w w')(h:Hid (w.heap[b]?=some x)):Hid (w'.heap[b]?=some x):=aa ((hb.block _ (aq h.o)).trans h.o)
theorem Zbl {w v u:World}(a:Hid (Below w.heap.size w v))(hb:Below v.heap.size v u):Hid (Below w.heap.size w u):=aa (a.o.trans (hb.mono a.o.size))
theorem TbA {p:Prop}(h:p:=by
 rintro e w2 ⟨rfl,hb2⟩;have cm:=Zbl cU hb2;clear hb2;go_wp2;go_ret;exact ⟨ah (by rw [HN.o];rfl),cm.o⟩):p:=h
theorem Tb5 {p:Prop}(h:p:=by
 have h1:(s[0].toNat:Int)=45:=by assumption
 go_ret;exact ⟨ah (by rw [HN.o,h1];rfl),bj _ _⟩):p:=h
theorem Du (s:ByteArray)(w:World)(hs:s.size<=9223372036854775807) :
  Calls prog 174 #[.string s] w fun e w'=>e=.returned (.bool (qA s))/\Below w.heap.size w w':=by
 have as4:=aa (fun w=>qy ⟨#[95,46,43,45]⟩ w TcF TcF);by_cases h0:0<s.size
 ·have he:=lS h0;have HH:=aa (wH s h0);by_cases h40:s.size<=40
  ·have HN:Hid (qA s=(!((s[0].toNat:Int) == 45)&&!((s[0].toNat:Int) == 46)&&wS vF s)):=aa (by
    rw [HH.o];simp [qA,h0,h40,Bool.and_assoc];rw [show (((lI s).toNat:Int) == 45)=((lI s).toNat == 45) from by rw [mN];simp;omega,show (((lI s).toNat:Int) == 46)=((lI s).toNat == 46) from by rw [mN];simp;omega])
   go_enter func174,ntmps174
   go_wp2_with fail
   ·exact Tb5
   ·have h1:(s[0].toNat:Int)=46:=by assumption
    go_ret;exact ⟨ah (by rw [HN.o,h1];rfl),bj _ _⟩
   refine (as4.o _).mono ?_;rintro e w1 ⟨rfl,hb1⟩;have cU:=aa hb1;clear hb1;go_wp2_with fail;refine (zP vF s _ hs).mono ?_;exact TbA
  have HN:Hid (qA s=false):=aa (by simp [qA,h40]);go_enter func174,ntmps174;go_wp2;go_ret;exact ⟨ah HN.o.symm,bj _ _⟩
 obtain rfl:=oI h0;go_enter func174,ntmps174;go_wp2;go_ret;exact ⟨rfl,bj _ _⟩
theorem Af (s:ByteArray)(w:World)(hs:s.size<=9223372036854775807) :
  Calls prog 60 #[.string s] w fun e w'=>e=.returned (.bool (mr s))/\Below w.heap.size w w':=by
 have as4:=aa (fun w=>qy ⟨#[95,46,43,45,47,61,58]⟩ w TcF TcF);by_cases h0:0<s.size
 ·have he:=lS h0;have HH:=aa (wH s h0);by_cases h40:s.size<=24
  ·have HN:Hid (mr s=(!((s[0].toNat:Int) == 45)&&wS zB s)):=aa (by
    rw [HH.o];simp [mr,h0,h40,Bool.and_assoc];rw [show (((lI s).toNat:Int) == 45)=((lI s).toNat == 45) from by rw [mN];simp;omega])
   go_enter func60,ntmps60
   go_wp2_with fail
   ·exact Tb5
   refine (as4.o _).mono ?_;rintro e w1 ⟨rfl,hb1⟩;have cU:=aa hb1;clear hb1;go_wp2_with fail;refine (zP zB s _ hs).mono ?_;exact TbA
  have HN:Hid (mr s=false):=aa (by simp [mr,h40]);go_enter func60,ntmps60;go_wp2;go_ret;exact ⟨ah HN.o.symm,bj _ _⟩
 obtain rfl:=oI h0;go_enter func60,ntmps60;go_wp2;go_ret;exact ⟨rfl,bj _ _⟩
end Go.Proofs.YtaagglbgohjldaaGreatDoor
