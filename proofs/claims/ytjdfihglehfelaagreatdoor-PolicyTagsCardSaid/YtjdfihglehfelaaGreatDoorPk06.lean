/- Lemmas: MkI, Nam, NamB. -/
import Derived.Test.YtjdfihglehfelaaGreatDoorPk04
import Derived.Test.YtjdfihglehfelaaGreatDoorPk05
import Derived.Test.YtjdfihglehfelaaGreatDoorShelf
set_option maxRecDepth 100000
set_option maxHeartbeats 32000000
set_option linter.all false
namespace Go.Proofs.YtjdfihglehfelaaGreatDoor
open Go.RowKit
def es:ByteArray:=⟨#[]⟩
def dE (n:Int)(on:ByteArray)(s:Int):aB:=⟨0,n,1,[⟨false,on,s⟩],0,[],es,es,0,0,0⟩
def eD (name:ByteArray)(id:Int)(hidden:Bool)(n:Int)(on:ByteArray)(s:Int):ay:=⟨name,id,hidden,false,[],[dE n on s]⟩
inductive fZ (Gb:List az):List Int→List (ByteArray × Int × Int)→List Int→Prop
 | nil (next:List Int):fZ Gb next [] next
 | snoc {next next1:List Int} {ps:List (ByteArray × Int × Int)} {d:Nat} {D:az} {m s n:Int} (h:fZ Gb next ps next1) (hd:Gb[d]?=some D) (hm:next1[d]?=some m) (h1:m≤s) (h2:s+n≤D.Gc) (h3:1≤n):fZ Gb next (ps++[(D.name,s,n)]) (next1.set d (s+n))
theorem fZ.trans {Gb:List az}{a b c:List Int}{p q:List (ByteArray × Int × Int)}(h:fZ Gb a p b)(k:fZ Gb b q c):fZ Gb a (p++q) c:=by
 induction k with
 | nil=>simpa using h
 | snoc k hd hm h1 h2 h3 ih =>
  rw [← List.append_assoc];exact .snoc ih hd hm h1 h2 h3
structure DOk (Gb:List az)(next:List Int):Prop where
 len:next.length=Gb.length
 pos:0<Gb.length
 le:Gb.length≤8
 ext:∀ D∈Gb,0≤D.Gc∧D.Gc≤1000
 nx:∀ (d:Nat) (m:Int),next[d]?=some m→0≤m∧m≤1000
theorem fZ.ok {Gb:List az}{a b:List Int}{p:List (ByteArray × Int × Int)}(h:fZ Gb a p b)(k:DOk Gb a):DOk Gb b:=by
 induction h with
 | nil=>exact k
 | @snoc next1 ps d D m s n h hd hm h1 h2 h3 ih =>
  refine ⟨by simp [ih.len],ih.pos,ih.le,ih.ext,fun e x hx=>?_⟩;rw [List.getElem?_set] at hx;split at hx
  ·split at hx
   ·injection hx with hx
    have:=ih.nx d m hm;have:=ih.ext D (List.mem_of_getElem? hd);omega
   ·cases hx
  ·exact ih.nx e x hx
structure BOk (g:af)(next:List Int):Prop where
 dk:DOk g.Gb next
 n0:0≤g.next
 n1:g.next≤100000
 vl:g.F9.length≤100
def Fz (w:World)(vv:Value)(n:Nat):Prop:=∃ vb vc sb,vv=.slice (some ⟨vb,0,none⟩) (n+1) vc∧w.cell? ⟨vb,n*6+5,none⟩=some (.slice (some ⟨sb,0,none⟩) 1 1)
def F3 (X:Nat→Prop)(bs bb:Nat)(nv vv:Value)(g:af)(next:List Int)(name:ByteArray)(hidden:Bool)(n:Int)(w:World)(e:Ending)(w':World):Prop :=
 (e=.returned (.bool false)∧aH X bs bb nv vv w w' nv vv { g with next:=g.next+1 } next) ∨
 ∃ (on:ByteArray) (s:Int) (next':List Int) (vv':Value),fZ g.Gb next [(on,s,n)] next'∧e=.returned (.bool true) ∧
  aH X bs bb nv vv w w' nv vv' { g with next:=g.next+1,F9:=g.F9++[eD name (idOf g.id (g.next+1)) hidden n on s] } next'∧Fz w' vv' g.F9.length
def fD (X:Nat→Prop)(L:Nat):Nat→Prop:=fun k=>X k∨k=L
theorem CU {X:Nat→Prop}{w:World}{o:Obj}{L:Nat}(hL:L=w.heap.size):∀ k,fD X L k→X k∨(w.heap.size≤k∧k<(w.alloc o).heap.size):=by
 rintro k (h | rfl)
 ·exact .inl h
 ·exact .inr ⟨by omega,by simp;omega⟩
theorem ae (w:World)(o:Obj):Below w.heap.size w (w.alloc o):=(Below.refl _ _).alloc (Nat.le_refl _) _
theorem qM {w:World}{b:Nat}(hb:b<w.heap.size)(o p q:Obj):(((w.alloc o).alloc p).alloc q).heap[b]?=w.heap[b]?:=by
 rw [Below.heap_alloc _ _ _ (by simp;omega),Below.heap_alloc _ _ _ (by simp;omega),Below.heap_alloc _ _ _ hb]
theorem Bld.c7 {X:Nat→Prop}{w:World}{bs bb:Nat}{nv vv:Value}{g:af}{next:List Int}(h:Bld X w bs bb nv vv g next):∃ p dcap,w.cell? ⟨bb,7,none⟩=some (.slice p g.Gb.length dcap)∧g.Gb.length≤dcap∧dcap≤9223372036854775807:=by
 obtain ⟨tv,dv,hv,e,_,h2,_⟩:=h.blk;obtain ⟨p,dcap,ed,k1,k2,k3⟩:=h2;simp only [List.cons.injEq,and_true] at ed;subst ed;exact ⟨p,dcap,by simp [World.cell?,e],k1,k2⟩
theorem Bld.c8 {X:Nat→Prop}{w:World}{bs bb:Nat}{nv vv:Value}{g:af}{next:List Int}(h:Bld X w bs bb nv vv g next):w.cell? ⟨bb,8,none⟩=some vv:=by
 obtain ⟨tv,dv,hv,e,_,h2,_⟩:=h.blk;simp [World.cell?,e]
theorem Bld.bfr {X:Nat→Prop}{w:World}{bs bb:Nat}{nv vv:Value}{g:af}{next:List Int}(h:Bld X w bs bb nv vv g next)(i:Nat):w.frozen? ⟨bb,i,none⟩=false:=by
 obtain ⟨tv,dv,hv,e,_,h2,_⟩:=h.blk;simp [World.frozen?,e]
theorem qw (X:Nat→Prop)(bs bb:Nat)(nv vv:Value)(g:af)(next:List Int)(w:World)(h:Bld X w bs bb nv vv g next)(hk:BOk g next)(name:ByteArray)(hidden:Bool)(d0:Nat)(n:Int)(hd0:d0≤100)(hn0:1≤n)(hn1:n≤1000000) :
  Calls Tryz.prog 43 #[.pointer (some ⟨bb,0,none⟩),.string name,.bool hidden,.int .i64 d0,.int .i64 n] w (F3 X bs bb nv vv g next name hidden n w):=by
 have k0:=hk.n0;have k1:=hk.n1;have k2:=hk.dk.pos;have k3:=hk.dk.le;have k4:=hk.vl;go_enter Tryz.func43,Tryz.ntmps43
 go_wp2_with fail
 refine (vS X bs bb nv vv g next _ h (by omega) (by omega)).mono ?_;rintro e w1 ⟨rfl,P1⟩;generalize hid:idOf g.id (g.next+1)=vid;have HID:=aa hid;clear hid;go_wp2;have P2:=P1.fresh (Y:=fD X w1.heap.size) (ae w1 (.cells #[.string name,.int .u64 vid,.bool hidden,.bool false,.slice none 0 0,.slice none 0 0] 55)) (CU rfl);have HL:=aa (heap_alloc_new w1 (.cells #[.string name,.int .u64 vid,.bool hidden,.bool false,.slice none 0 0,.slice none 0 0] 55));have hLw:=P1.mod.size;generalize hL:w1.heap.size=L at *;have HLe:=aa hL;clear hL
 go_loopw [12] (fun i wr=>∃ k:Nat,k≤g.Gb.length∧i=.int .i64 k∧aH (fD X L) bs bb nv vv w wr nv vv { g with next:=g.next+1 } next∧wr.heap[L]?=some (.cells #[.string name,.int .u64 vid,.bool hidden,.bool false,.slice none 0 0,.slice none 0 0] 55 (0,0))) (fun i _=>g.Gb.length - (intOf i).toNat)
 case atStart=>exact ⟨0,by omega,rfl,P2,HL.out⟩
 case round =>
  obtain ⟨k,hkl,rfl,P,hLb⟩:=hrel;have HLb:=aa hLb;clear hLb;obtain ⟨dp,dcap,c7,l1,l2⟩:=P.bld.c7;simp only at c7 l1
  by_cases hlt:k<g.Gb.length
  ·have hmod:((d0:Int)+(k:Int)) % (g.Gb.length:Int)=(((d0+k) % g.Gb.length:Nat):Int):=by simp
   have hdl:(d0+k) % g.Gb.length<g.Gb.length:=Nat.mod_lt _ k2;generalize hd:(d0+k) % g.Gb.length=d at *;have HDe:=aa hd;clear hd;obtain ⟨D,hD⟩:=aj g.Gb d hdl;obtain ⟨m,hm⟩:=aj next d (by rw [hk.dk.len];exact hdl);have hmb:=hk.dk.nx d m hm;have HD:=aa hD;clear hD;have HM:=aa hm;clear hm
   go_wp2_with fail
   refine (qR (fD X L) bs bb nv vv _ next _ P.bld d D m n HD.out HM.out hmb.1 (by omega) (by omega) hn1).mono ?_;rintro e w2 (⟨rfl,Q,_⟩ | ⟨s,hs1,hs2,rfl,Q,_⟩)
   ·go_wp2
    go_roundw
    case rel=>exact ⟨k+1,by omega,by go_num,(P.trans Q).after (ae _ _),(Below.heap_alloc _ _ _ (by have:=Q.mod.size;have:=lt_of_block HLb.out;omega)).trans ((Q.loc P.bld (.inr rfl)).trans HLb.out)⟩
    case measure=>simp [intOf];omega
   ·have R2:=P.trans Q
    have HL2:=aa ((Q.loc P.bld (.inr rfl)).trans HLb.out);have hLs:L<w2.heap.size:=lt_of_block HL2.out;have cL5:∀ o p q,(((w2.alloc o).alloc p).alloc q).cell? ⟨L,5,none⟩=some (.slice none 0 0):=fun o p q=>by simp [World.cell?,qM hLs,HL2.out]
    have fL5:∀ o p q,(((w2.alloc o).alloc p).alloc q).frozen? ⟨L,5,none⟩=false:=fun o p q=>by simp [World.frozen?,qM hLs,HL2.out]
    go_wp2;clear cL5 fL5;generalize hW:World.setCell (World.alloc (World.alloc (World.alloc w2 _) _) _) _ _=W
    have R4:aH (fD X L) bs bb nv vv w W nv vv { g with next:=g.next+1 } (next.set d (s+n)):=by
     rw [← hW];exact (((R2.after (ae _ _)).after (ae _ _)).after (ae _ _)).put L 5 _ (.inr rfl) hLw
    have hWL:W.heap[L]?=some (.cells #[.string name,.int .u64 vid,.bool hidden,.bool false,.slice none 0 0,.slice (some ⟨w2.heap.size+1+1,0,none⟩) 1 1] 55 (0,0)):=by
     rw [← hW];exact block_setCell (cs:=#[_,_,_,_,_,_]) (i:=5) _ ((qM hLs _ _ _).trans HL2.out)
    have hWA:W.heap[w2.heap.size+1]?=some (.cells [.bool false,.string D.name,.int .i64 s].toArray 60 (0,0)):=by
     rw [← hW,Below.heap_setCell _ _ _ _ (by simp;omega),Below.heap_alloc _ _ _ (by simp)];have:=heap_alloc_new (w2.alloc (.cells #[.bool false,.string D.name,.int .i64 s] 60)) (.cells #[.bool false,.string D.name,.int .i64 s] 60);rw [World.size_alloc] at this;exact this
    have hWS:W.heap[w2.heap.size+1+1]?=some (.cells [.int .i64 0,.int .i64 n,.int .i64 1,.slice (some ⟨w2.heap.size+1,0,none⟩) 1 1,.int .i64 0,.slice none 0 0,.string es,.string es,.int .i64 0,.int .i64 0,.int .i64 0].toArray 79 (0,0)):=by
     rw [← hW,Below.heap_setCell _ _ _ _ (by simp;omega)];have:=heap_alloc_new ((w2.alloc (.cells #[.bool false,.string D.name,.int .i64 s] 60)).alloc (.cells #[.bool false,.string D.name,.int .i64 s] 60)) (.cells #[.int .i64 0,.int .i64 n,.int .i64 1,.slice (some ⟨w2.heap.size+1,0,none⟩) 1 1,.int .i64 0,.slice none 0 0,.string es,.string es,.int .i64 0,.int .i64 0,.int .i64 0] 79);rw [World.size_alloc,World.size_alloc] at this;exact this
    have RV:aN (okB (fD X L) bb nv vv) W [.string name,.int .u64 vid,.bool hidden,.bool false,.slice none 0 0,.slice (some ⟨w2.heap.size+1+1,0,none⟩) 1 1] (eD name vid hidden n D.name s) :=
     ⟨_,_,rfl,RdS.nil,RdS.one hWS (R2.bld.okNew (by omega)) rfl ⟨_,_,rfl,RdS.one hWA (R2.bld.okNew (by omega)) rfl rfl,RdS.nil⟩⟩
    clear hW hWA hWS;obtain ⟨i0,hi,hz0,hz1,hz2⟩:=info_parts zT;have HI:=aa hi;clear hi;have H0:=aa hz0;clear hz0;have H1:=aa hz1;clear hz1;have H2:=aa hz2;clear hz2;have hbw:=R4.bld.Gj;have hbL:bb<L:=by have:=h.Gj;omega
    have q8:W.cell? ⟨bb,8,none⟩=some vv:=R4.bld.c8
    have qL:∀ (j:Nat) (z:Value),[Value.string name,.int .u64 vid,.bool hidden,.bool false,.slice none 0 0,.slice (some ⟨w2.heap.size+1+1,0,none⟩) 1 1][j]?=some z→W.cell? ⟨L,j,none⟩=some z:=fun j z hz=>by
     simp only [World.cell?,hWL];simpa using hz
    have hne1:bb≠L:=by omega
    have hne2:L≠bb:=by omega
    have qf:W.frozen? ⟨bb,8,none⟩=false:=R4.bld.bfr 8;have q0:=qL 0 _ rfl;have q1:=qL 1 _ rfl;have q2:=qL 2 _ rfl;have q3:=qL 3 _ rfl;have q4:=qL 4 _ rfl;have q5:=qL 5 _ rfl;have HQL:=aa qL;clear qL;have HWL:=aa hWL;clear hWL;have HK:=aa (fun (W1 W2:World) (gb cap:Nat) hb hp=>R4.bld.pushKeeps (N:=W.heap.size) (p:=eD name vid hidden n D.name s) (u:=[.string name,.int .u64 vid,.bool hidden,.bool false,.slice none 0 0,.slice (some ⟨w2.heap.size+1+1,0,none⟩) 1 1]) (w1:=W1) (w2:=W2) (gb:=gb) (cap:=cap) hb hp);have HRdy:=aa (R4.bld.ready RV);have HPu:=aa (fun (W1 W2:World) (gb cap:Nat) hb hp=>R4.push (N:=W.heap.size) (p:=eD name vid hidden n D.name s) (u:=[.string name,.int .u64 vid,.bool hidden,.bool false,.slice none 0 0,.slice (some ⟨w2.heap.size+1+1,0,none⟩) 1 1]) (w1:=W1) (w2:=W2) (gb:=gb) (cap:=cap) hb hp (Nat.le_refl _));refine aL (fun w'=>w'.cell? ⟨bb,8,none⟩=some vv∧w'.cell? ⟨L,0,none⟩=some (.string name)∧w'.cell? ⟨L,1,none⟩=some (.int .u64 vid)∧w'.cell? ⟨L,2,none⟩=some (.bool hidden)∧w'.cell? ⟨L,3,none⟩=some (.bool false)∧w'.cell? ⟨L,4,none⟩=some (.slice none 0 0)∧w'.cell? ⟨L,5,none⟩=some (.slice (some ⟨w2.heap.size+1+1,0,none⟩) 1 1)) 8 [0,1,2,3,4] (by kernel_rfl) (by simp [q8,q0,q1,q2,q3,q4,q5]) (fun hHeld=>?_);refine tkV 0 ?_;try simp only [ak];refine tkV 1 ?_;try simp only [ak];refine tkV 2 ?_;try simp only [ak];refine tkV 3 ?_;try simp only [ak];refine tkV 4 ?_;try simp only [ak];refine tkF 5 hHeld ?_;try simp only [ak];refine tkF 6 hHeld ?_;try simp only [ak];refine au (i:=7) rfl rfl (by kernel_rfl) (fun K hK=>?_);go_simp;have hbel:Below W.heap.size W ((W.alloc (.cells #[.string name,.int .u64 vid,.bool hidden,.bool false,.slice none 0 0,.slice (some ⟨w2.heap.size+1+1,0,none⟩) 1 1] 55)).drew):=(ae _ _).drew
    have hcn:∀ (j:Nat) (y:Value),[Value.string name,.int .u64 vid,.bool hidden,.bool false,.slice none 0 0,.slice (some ⟨w2.heap.size+1+1,0,none⟩) 1 1][j]?=some y→((W.alloc (.cells #[.string name,.int .u64 vid,.bool hidden,.bool false,.slice none 0 0,.slice (some ⟨w2.heap.size+1+1,0,none⟩) 1 1] 55)).drew).cell? ⟨W.heap.size,j,none⟩=some y:=fun j y hy=>by
     show (W.alloc _).cell? _=_;exact aD rfl (by simpa using hy)
    have hwz:W.heap.size+1=((W.alloc (.cells #[.string name,.int .u64 vid,.bool hidden,.bool false,.slice none 0 0,.slice (some ⟨w2.heap.size+1+1,0,none⟩) 1 1] 55)).drew).heap.size:=by simp
    have hbS:∀ w':World,w'.heap[bb]?=W.heap[bb]?→w'.heap[L]?=W.heap[L]?→w'.cell? ⟨bb,8,none⟩=some vv∧w'.cell? ⟨L,0,none⟩=some (.string name)∧w'.cell? ⟨L,1,none⟩=some (.int .u64 vid)∧w'.cell? ⟨L,2,none⟩=some (.bool hidden)∧w'.cell? ⟨L,3,none⟩=some (.bool false)∧w'.cell? ⟨L,4,none⟩=some (.slice none 0 0)∧w'.cell? ⟨L,5,none⟩=some (.slice (some ⟨w2.heap.size+1+1,0,none⟩) 1 1):=fun w' e1 e2 =>
     ⟨(World.cell?_of_block (w:=W) e1).trans q8,(World.cell?_of_block (w:=W) e2).trans q0,(World.cell?_of_block (w:=W) e2).trans q1,(World.cell?_of_block (w:=W) e2).trans q2,(World.cell?_of_block (w:=W) e2).trans q3,(World.cell?_of_block (w:=W) e2).trans q4,(World.cell?_of_block (w:=W) e2).trans q5⟩
    generalize hW1:(W.alloc (.cells #[.string name,.int .u64 vid,.bool hidden,.bool false,.slice none 0 0,.slice (some ⟨w2.heap.size+1+1,0,none⟩) 1 1] 55)).drew=W1 at *;clear hW1;refine hK.out _ _ (hbS _ (hbel.block bb hbw) (hbel.block L (lt_of_block HWL.out))) ?_;clear hK K;refine aP (by kernel_rfl) rfl ?_;simp only [List.drop_succ_cons,List.drop_zero];refine dX aN.moves Tryz.underlying28 HI.out H0.out H1.out H2.out rfl (by decide) (by decide) rfl _ _ (by rfl) (bb+1) (fun b=>okB (fD X L) bb nv vv b∧b<W.heap.size) vv g.F9 (eD name vid hidden n D.name s) (by rfl) (HRdy.out _ hbel).1 W.heap.size 1 [.string name,.int .u64 vid,.bool hidden,.bool false,.slice none 0 0,.slice (some ⟨w2.heap.size+1+1,0,none⟩) 1 1] (by rfl) (by rfl) (HRdy.out _ hbel).2 (by simp [Value.oneCell']) hcn (by omega) (by omega) p8 (fun gb cap w3 hp=>?_);obtain ⟨hx1,hx2⟩:=HK.out _ w3 gb cap hbel hp;have y8:=(World.cell?_of_block (w:=W) (w':=w3) (a:=⟨bb,8,none⟩) hx1).trans q8;have yf:=(World.frozen?_of_block (w:=W) (w':=w3) (a:=⟨bb,8,none⟩) hx1).trans qf;have R5:=HPu.out _ w3 gb cap hbel hp;have hlast:=hp.last 5 _ rfl;have HLast:=aa hlast;clear hlast;have HB3:=aa hx1
    have hgb:gb≠bb:=by
     rintro rfl;obtain ⟨cs,ho,_⟩:=hp.own;have:=(ho.lt gb rfl).1;omega
    clear hp hx1 hx2 hbS hcn;simp only [aS];go_wp2;go_ret;have hv:=HID.out;subst hv;refine .inr ⟨D.name,s,_,_,.snoc (.nil _) HD.out HM.out hs1 hs2 hn0,rfl,R5.fewer (fun k hk=>.inl hk),gb,cap,w2.heap.size+1+1,rfl,?_⟩;exact (World.cell?_of_block (w:=w3) (Below.heap_setCell _ _ _ _ hgb)).trans HLast.out
  ·go_wp2
   go_ret;exact .inl ⟨rfl,P.fewer (fun k hk=>.inl hk)⟩
def orB (a k:Int):Int:=bits BinOp.or IntKind.u64 a (IntKind.u64.wrap (2 ^ k.toNat))
def wD (s:Int × Int)(c:Int):Int × Int:=if c<64 then (orB s.1 (c % 64),s.2) else (s.1,orB s.2 (c % 64))
def gz (w:World)(b:Nat)(s:Int × Int):Prop:=w.heap[b]?=some (.cells #[.int .u64 s.1,.int .u64 s.2] 203 (0,0))
theorem pQ (c:Int)(s:Int × Int)(b:Nat)(w:World)(h0:0≤c)(h1:c<128)(hb:gz w b s) :
  Calls Tryz.prog 198 #[.int .u8 c,.pointer (some ⟨b,0,none⟩)] w fun e w'=>e=.returned (.tuple #[])∧gz w' b (wD s c)∧Mod (fun i=>i=b) w w':=by
 have c0:w.cell? ⟨b,0,none⟩=some (.int .u64 s.1):=by simp [World.cell?,show w.heap[b]?=_ from hb]
 have f0:w.frozen? ⟨b,0,none⟩=false:=by simp [World.frozen?,show w.heap[b]?=_ from hb]
 have c1:w.cell? ⟨b,1,none⟩=some (.int .u64 s.2):=by simp [World.cell?,show w.heap[b]?=_ from hb]
 have f1:w.frozen? ⟨b,1,none⟩=false:=by simp [World.frozen?,show w.heap[b]?=_ from hb]
 have HB:=aa hb;clear hb
 by_cases hc:c<64
 ·have hq:c / 64=0:=by omega
  go_enter Tryz.func198,Tryz.ntmps198;go_wp2
  go_end0
  refine ⟨rfl,?_,(Mod.refl (fun i=>i=b) w).setCell (p:=⟨b,0,none⟩) (.inl rfl) _⟩;have:=block_setCell (i:=0) (.int .u64 (orB s.1 (c % 64))) HB.out;unfold gz wD;rw [if_pos hc];exact this
 ·have hq:c / 64=1:=by omega
  go_enter Tryz.func198,Tryz.ntmps198;go_wp2
  go_end0
  refine ⟨rfl,?_,(Mod.refl (fun i=>i=b) w).setCell (p:=⟨b,1,none⟩) (.inl rfl) _⟩;have:=block_setCell (i:=1) (.int .u64 (orB s.2 (c % 64))) HB.out;unfold gz wD;rw [if_neg (by omega)];exact this
def mK:Nat→Int × Int
 | 0=>(0,0)
 | k+1=>wD (wD (mK k) (97+k)) (65+k)
def BI (s:Int × Int):Nat→Int × Int
 | 0=>s
 | k+1=>wD (BI s k) (48+k)
def xE (s:Int × Int)(l:List UInt8):Int × Int:=l.foldl (fun s c=>wD s c.toNat) s
def setS (l:List UInt8):Int × Int:=xE (BI (mK 26) 10) l
theorem gz.lt {w:World}{b:Nat}{s:Int × Int}(h:gz w b s):b<w.heap.size:=lt_of_block h
theorem yD (s:Int × Int)(l:List UInt8)(k:Nat)(c:UInt8)(h:l[k]?=some c):xE s (l.take (k+1))=wD (xE s (l.take k)) c.toNat:=by
 rw [take_snoc' l k c h,xE,List.foldl_append];rfl
theorem qy (s:ByteArray)(w:World)(hl:∀ c∈s.data.toList,c.toNat<128)(hn:s.size≤100) :
  Calls Tryz.prog 157 #[.string s] w fun e w'=>e=.returned (.agg #[.int .u64 (setS s.data.toList).1,.int .u64 (setS s.data.toList).2])∧Below w.heap.size w w':=by
 have HL:=aa hl;clear hl;go_enter Tryz.func157,Tryz.ntmps157;go_wp2
 go_loopw [5] (fun c wr=>∃ k:Nat,k≤26∧c=.int .u8 (97+k)∧gz wr (w.heap.size+1) (mK k)∧gz wr w.heap.size (0,0)∧Below w.heap.size w wr) (fun c _=>123 - (intOf c).toNat)
 case atStart =>
  refine ⟨0,by omega,rfl,?_,?_,((Below.refl _ _).alloc (Nat.le_refl _) _).alloc (by simp) _⟩
  ·have:=heap_alloc_new (w.alloc (.cells #[.int .u64 0,.int .u64 0] 203)) (.cells #[.int .u64 0,.int .u64 0] 203)
   rw [World.size_alloc] at this;exact this
  ·exact (Below.heap_alloc _ _ _ (by simp)).trans (heap_alloc_new w _)
 case round =>
  obtain ⟨k,hk,rfl,hs,hr,hB⟩:=hrel;have HR:=aa hr;clear hr;have HS:=aa hs;clear hs
  by_cases hlt:k<26
  ·go_wp2_with fail
   refine (pQ (97+(k:Int)) (mK k) _ _ (by omega) (by omega) HS.out).mono ?_;rintro e w1 ⟨rfl,hs1,hm1⟩;have HR1:Hid (gz w1 w.heap.size (0,0)):=aa ((hm1.block _ HR.out.lt (by omega)).trans HR.out);have HS1:=aa hs1;clear hs1;have hB1:Below w.heap.size w w1:=hB.trans (hm1.below hB.size (by intro i hi;omega));clear hB hm1
   go_wp2_with fail
   refine (pQ (97+(k:Int) - 97+65) _ _ _ (by omega) (by omega) HS1.out).mono ?_;rintro e w2 ⟨rfl,hs2,hm2⟩;have HR2:Hid (gz w2 w.heap.size (0,0)):=aa ((hm2.block _ HR1.out.lt (by omega)).trans HR1.out);have HS2:=aa hs2;clear hs2;have hB2:Below w.heap.size w w2:=hB1.trans (hm2.below hB1.size (by intro i hi;omega));clear hB1 hm2;go_wp2;go_roundw
   case rel =>
    refine ⟨k+1,by omega,by go_num,?_,HR2.out,hB2⟩;have:=HS2.out;rw [show (97+(k:Int) - 97+65)=65+k from by omega] at this;exact this
   case measure=>simp [intOf];omega
  ·have HS26:Hid (gz wr (w.heap.size+1) (mK 26)):=aa (by have:=HS.out;rwa [show k=26 from by omega] at this)
   clear HS;have HS:=HS26;go_wp2
   go_loopw [6] (fun c wr=>∃ k:Nat,k≤10∧c=.int .u8 (48+k)∧gz wr (w.heap.size+1) (BI (mK 26) k)∧gz wr w.heap.size (0,0)∧Below w.heap.size w wr) (fun c _=>58 - (intOf c).toNat)
   case atStart=>exact ⟨0,by omega,rfl,HS.out,HR.out,hB⟩
   case round =>
    clear HR HS hB HS26;have hk26:=hk;clear hk;rename_i hlt26;obtain ⟨k,hk,rfl,hs,hr,hB⟩:=hrel;have HR:=aa hr;clear hr;have HS:=aa hs;clear hs
    by_cases hlt:k<10
    ·go_wp2_with fail
     refine (pQ (48+(k:Int)) _ _ _ (by omega) (by omega) HS.out).mono ?_;rintro e w1 ⟨rfl,hs1,hm1⟩;have HR1:Hid (gz w1 w.heap.size (0,0)):=aa ((hm1.block _ HR.out.lt (by omega)).trans HR.out);have HS1:=aa hs1;clear hs1;have hB1:Below w.heap.size w w1:=hB.trans (hm1.below hB.size (by intro i hi;omega));clear hB hm1;go_wp2;go_roundw
     case rel=>exact ⟨k+1,by omega,by go_num,HS1.out,HR1.out,hB1⟩
     case measure=>simp [intOf];omega
    ·have HS10:Hid (gz wr (w.heap.size+1) (BI (mK 26) 10)):=aa (by have:=HS.out;rwa [show k=10 from by omega] at this)
     clear HS;have HS:=HS10;go_wp2
     go_loopw [30,7] (fun i _ wr=>∃ k:Nat,k≤s.size∧i=.int .i64 k∧gz wr (w.heap.size+1) (xE (BI (mK 26) 10) (s.data.toList.take k))∧gz wr w.heap.size (0,0)∧Below w.heap.size w wr) (fun i _ _=>s.size - (intOf i).toNat)
     case atStart=>exact ⟨0,Nat.zero_le _,rfl,HS.out,HR.out,hB⟩
     case round =>
      clear HR HS hB HS10;have hk10:=hk;clear hk;rename_i hlt10;obtain ⟨k,hk,rfl,hs,hr,hB⟩:=hrel;have HR:=aa hr;clear hr;have HS:=aa hs;clear hs
      by_cases hlt:k<s.size
      ·have hc:s.data.toList[k]?=some s[k]:=by
        rw [List.getElem?_eq_getElem (by simpa using hlt)];rfl
       have hc1:=HL.out _ (List.mem_of_getElem? hc);have HM:=aa (yD (BI (mK 26) 10) _ k _ hc);clear hc
       go_wp2_with fail
       refine (pQ _ _ _ _ (by omega) (by omega) HS.out).mono ?_;rintro e w1 ⟨rfl,hs1,hm1⟩;have HR1:Hid (gz w1 w.heap.size (0,0)):=aa ((hm1.block _ HR.out.lt (by omega)).trans HR.out);have HS1:=aa hs1;clear hs1;have hB1:Below w.heap.size w w1:=hB.trans (hm1.below hB.size (by intro i hi;omega));clear hB hm1;go_wp2;go_roundw
       case rel=>exact ⟨k+1,by omega,by go_num,by rw [HM.out];exact HS1.out,HR1.out,hB1⟩
       case measure=>simp [intOf];omega
      ·obtain rfl:k=s.size:=by omega
       have hm:gz wr (w.heap.size+1) (setS s.data.toList):=by
        have:=HS.out
        rwa [List.take_of_length_le (by simp)] at this
       have m0:wr.cell? ⟨w.heap.size+1,0,none⟩=some (.int .u64 (setS s.data.toList).1):=by simp [World.cell?,show wr.heap[w.heap.size+1]?=_ from hm]
       have m1:wr.cell? ⟨w.heap.size+1,1,none⟩=some (.int .u64 (setS s.data.toList).2):=by simp [World.cell?,show wr.heap[w.heap.size+1]?=_ from hm]
       have f0:wr.frozen? ⟨w.heap.size,0,none⟩=false:=by simp [World.frozen?,show wr.heap[w.heap.size]?=_ from HR.out]
       have f1:wr.frozen? ⟨w.heap.size,1,none⟩=false:=by simp [World.frozen?,show wr.heap[w.heap.size]?=_ from HR.out]
       have r0:wr.cell? ⟨w.heap.size,0,none⟩=some (.int .u64 0):=by simp [World.cell?,show wr.heap[w.heap.size]?=_ from HR.out]
       have r1:wr.cell? ⟨w.heap.size,1,none⟩=some (.int .u64 0):=by simp [World.cell?,show wr.heap[w.heap.size]?=_ from HR.out]
       clear hm;go_wp2;refine bodyPost_ret (v:=.agg #[.int .u64 (setS s.data.toList).1,.int .u64 (setS s.data.toList).2]) (by simp [results,Tryz.results157,go_sem,r0,r1,m0,m1]) rfl ⟨rfl,(hB.setCell (p:=⟨w.heap.size,0,none⟩) (Nat.le_refl _) _).setCell (p:=⟨w.heap.size,1,none⟩) (Nat.le_refl _) _⟩
def Ei (s:Int × Int)(c:Nat):Bool:=if c<64 then !(bits BinOp.and IntKind.u64 (s.1 / 2 ^ (c % 64)) 1 == 0) else !(bits BinOp.and IntKind.u64 (s.2 / 2 ^ (c % 64)) 1 == 0)
def kT (s:Int × Int)(c:UInt8):Bool:=decide (c.toNat<128)&&Ei s c.toNat
def wS (t:Int × Int)(s:ByteArray):Bool:=s.data.toList.all (kT t)
theorem zP (t:Int × Int)(s:ByteArray)(w:World)(hn:s.size≤9223372036854775807) :
  Calls Tryz.prog 158 #[.agg #[.int .u64 t.1,.int .u64 t.2],.string s] w fun e w'=>e=.returned (.bool (wS t s))∧Below w.heap.size w w':=by
 have hb:=ae w (.cells #[.int .u64 t.1,.int .u64 t.2] 203);have HB:=aa hb;clear hb;have t0:(w.alloc (.cells #[.int .u64 t.1,.int .u64 t.2] 203)).cell? ⟨w.heap.size,0,none⟩=some (.int .u64 t.1):=aD rfl rfl;have t1:(w.alloc (.cells #[.int .u64 t.1,.int .u64 t.2] 203)).cell? ⟨w.heap.size,1,none⟩=some (.int .u64 t.2):=aD rfl rfl;go_enter Tryz.func158,Tryz.ntmps158;go_wp2;generalize hW:World.alloc w _=W at *;have HW:=aa hW;clear hW
 go_loop [9,5,6] (fun i _ _=>∃ k:Nat,k≤s.size∧i=.int .i64 k∧(∀ j,j<k→∀ c,s.data.toList[j]?=some c→kT t c=true)) (fun i _ _=>s.size - (intOf i).toNat)
 case atStart=>exact ⟨0,Nat.zero_le _,rfl,fun j hj=>by omega⟩
 case round =>
  obtain ⟨k,hk,rfl,hall⟩:=hrel;have HA:=aa hall;clear hall
  by_cases hlt:k<s.size
  ·have hc:s.data.toList[k]?=some s[k]:=by
    rw [List.getElem?_eq_getElem (by simpa using hlt)];rfl
   have HC:=aa hc;clear hc
   have HU:Hid (∀ b:Bool,kT t s[k]=b→∀ j,j<k+1→∀ c,s.data.toList[j]?=some c→kT t c=b∨kT t c=true):=aa fun b hb j hj c hcj=>by
    by_cases hjk:j=k
    ·subst hjk
     rw [HC.out] at hcj;cases hcj
     exact .inl hb
    ·exact .inr (HA.out j (by omega) c hcj)
   have HF:Hid (kT t s[k]=false→wS t s=false):=aa fun hf=>by
    rw [wS,List.all_eq_false];exact ⟨_,List.mem_of_getElem? HC.out,by simp [hf]⟩
   have HI:Hid (kT t s[k]=(decide (s[k].toNat<128)&&Ei t s[k].toNat)):=aa rfl;clear HC
   go_upto_region 5 with (fail)
   generalize hib:kT t s[k]=ib at *;generalize hcg:s[k].toNat=c at *;have HIB:=aa hib;clear hib;have HCG:=aa hcg;clear hcg
   by_cases h128:(c:Int)<128
   ·by_cases h64:(c:Int)<64
    ·skip
     have hq:(c:Int) / 64=0:=by omega
     have hcb:ib=!(bits BinOp.and IntKind.u64 (t.1 / 2 ^ (c % 64)) 1 == 0):=by
      rw [HI.out];simp [Ei,show c<128 by omega,show c<64 by omega]
     have HCB:=aa hcb;clear hcb;cases hbit:(bits BinOp.and IntKind.u64 (t.1 / 2 ^ (c % 64)) 1 == 0) with
     | true =>
      go_wp2;go_ret;refine ⟨ah (HF.out ?_).symm,HB.out⟩;rw [HCB.out,hbit];rfl
     | false =>
      go_wp2;go_round
      case rel =>
       refine ⟨k+1,by omega,by go_num,fun j hj c hc=>(HU.out _ rfl j hj c hc).elim (fun h=>?_) id⟩;rw [h,HCB.out,hbit];rfl
      case measure=>simp [intOf];omega
    ·skip
     have hq:(c:Int) / 64=1:=by omega
     have hcb:ib=!(bits BinOp.and IntKind.u64 (t.2 / 2 ^ (c % 64)) 1 == 0):=by
      rw [HI.out];simp [Ei,show c<128 by omega,show ¬ c<64 by omega]
     have HCB:=aa hcb;clear hcb;cases hbit:(bits BinOp.and IntKind.u64 (t.2 / 2 ^ (c % 64)) 1 == 0) with
     | true =>
      go_wp2;go_ret;refine ⟨ah (HF.out ?_).symm,HB.out⟩;rw [HCB.out,hbit];rfl
     | false =>
      go_wp2;go_round
      case rel =>
       refine ⟨k+1,by omega,by go_num,fun j hj c hc=>(HU.out _ rfl j hj c hc).elim (fun h=>?_) id⟩;rw [h,HCB.out,hbit];rfl
      case measure=>simp [intOf];omega
   ·go_wp2
    go_ret;refine ⟨ah (HF.out ?_).symm,HB.out⟩;rw [HI.out];simp [show ¬ c<128 by omega]
  ·obtain rfl:k=s.size:=by omega
   go_wp2;go_ret;refine ⟨ah (Eq.symm ?_),HB.out⟩;rw [wS,List.all_eq_true];intro c hc;obtain ⟨j,hj⟩:=List.getElem?_of_mem hc;exact HA.out j (by simpa using (List.getElem?_eq_some_iff.1 hj).1) c hj
open Go.Shelf
def vF:Int × Int:=setS [95,46,43,45]
def zB:Int × Int:=setS [95,46,43,45,47,61,58]
def lI (s:ByteArray):UInt8:=s.data.toList.headD 0
def qA (s:ByteArray):Bool:=decide (0<s.size)&&decide (s.size≤40)&&!((lI s).toNat == 45)&&!((lI s).toNat == 46)&&wS vF s
def mr (s:ByteArray):Bool:=decide (0<s.size)&&decide (s.size≤24)&&!((lI s).toNat == 45)&&wS zB s
theorem wH (s:ByteArray)(h:0<s.size):s[0]=lI s:=by
 obtain ⟨⟨l⟩⟩:=s;cases l with
 | nil=>exact absurd h (by simp [ByteArray.size])
 | cons a l=>rfl
theorem oI {s:ByteArray}(h:¬ 0<s.size):s=⟨#[]⟩:=by
 obtain ⟨⟨l⟩⟩:=s;cases l with
 | nil=>rfl
 | cons a l=>exact absurd (by simp [ByteArray.size]) h
theorem lS {s:ByteArray}(h:0<s.size):s.toList.isEmpty=false:=by
 rw [ByteArray.toList_eq];obtain ⟨⟨l⟩⟩:=s;cases l with
 | nil=>exact absurd h (by simp [ByteArray.size])
 | cons a l=>rfl
theorem Du (s:ByteArray)(w:World)(hs:s.size≤9223372036854775807) :
  Calls Tryz.prog 184 #[.string s] w fun e w'=>e=.returned (.bool (qA s))∧Below w.heap.size w w':=by
 have HSET:=aa (fun w=>qy ⟨#[95,46,43,45]⟩ w (by decide) (by decide))
 by_cases h0:0<s.size
 ·have he:=lS h0
  have HH:=aa (wH s h0)
  by_cases h40:s.size≤40
  ·have HN:Hid (qA s=(!((s[0].toNat:Int) == 45)&&!((s[0].toNat:Int) == 46)&&wS vF s)):=aa (by
    rw [HH.out];simp [qA,h0,h40,Bool.and_assoc]
    rw [show (((lI s).toNat:Int) == 45)=((lI s).toNat == 45) from by rw [Bool.eq_iff_iff];simp;omega,show (((lI s).toNat:Int) == 46)=((lI s).toNat == 46) from by rw [Bool.eq_iff_iff];simp;omega])
   go_enter Tryz.func184,Tryz.ntmps184
   go_wp2_with fail
   ·have h1:(s[0].toNat:Int)=45:=by assumption
    go_ret;exact ⟨ah (by rw [HN.out,h1];rfl),Below.refl _ _⟩
   ·have h1:(s[0].toNat:Int)=46:=by assumption
    go_ret;exact ⟨ah (by rw [HN.out,h1];rfl),Below.refl _ _⟩
   ·refine (HSET.out _).mono ?_
    rintro e w1 ⟨rfl,hb1⟩;have HB1:=aa hb1;clear hb1
    go_wp2_with fail
    refine (zP vF s _ hs).mono ?_;rintro e w2 ⟨rfl,hb2⟩;have HB2:=aa (HB1.out.trans (hb2.mono HB1.out.size));clear hb2;go_wp2;go_ret;exact ⟨ah (by rw [HN.out];rfl),HB2.out⟩
  ·have HN:Hid (qA s=false):=aa (by simp [qA,h40])
   go_enter Tryz.func184,Tryz.ntmps184;go_wp2;go_ret;exact ⟨ah HN.out.symm,Below.refl _ _⟩
 ·obtain rfl:=oI h0
  go_enter Tryz.func184,Tryz.ntmps184;go_wp2;go_ret;exact ⟨rfl,Below.refl _ _⟩
theorem Af (s:ByteArray)(w:World)(hs:s.size≤9223372036854775807) :
  Calls Tryz.prog 97 #[.string s] w fun e w'=>e=.returned (.bool (mr s))∧Below w.heap.size w w':=by
 have HSET:=aa (fun w=>qy ⟨#[95,46,43,45,47,61,58]⟩ w (by decide) (by decide))
 by_cases h0:0<s.size
 ·have he:=lS h0
  have HH:=aa (wH s h0)
  by_cases h40:s.size≤24
  ·have HN:Hid (mr s=(!((s[0].toNat:Int) == 45)&&wS zB s)):=aa (by
    rw [HH.out];simp [mr,h0,h40,Bool.and_assoc]
    rw [show (((lI s).toNat:Int) == 45)=((lI s).toNat == 45) from by rw [Bool.eq_iff_iff];simp;omega])
   go_enter Tryz.func97,Tryz.ntmps97
   go_wp2_with fail
   ·have h1:(s[0].toNat:Int)=45:=by assumption
    go_ret;exact ⟨ah (by rw [HN.out,h1];rfl),Below.refl _ _⟩
   ·refine (HSET.out _).mono ?_
    rintro e w1 ⟨rfl,hb1⟩;have HB1:=aa hb1;clear hb1
    go_wp2_with fail
    refine (zP zB s _ hs).mono ?_;rintro e w2 ⟨rfl,hb2⟩;have HB2:=aa (HB1.out.trans (hb2.mono HB1.out.size));clear hb2;go_wp2;go_ret;exact ⟨ah (by rw [HN.out];rfl),HB2.out⟩
  ·have HN:Hid (mr s=false):=aa (by simp [mr,h40])
   go_enter Tryz.func97,Tryz.ntmps97;go_wp2;go_ret;exact ⟨ah HN.out.symm,Below.refl _ _⟩
 ·obtain rfl:=oI h0
  go_enter Tryz.func97,Tryz.ntmps97;go_wp2;go_ret;exact ⟨rfl,Below.refl _ _⟩
end Go.Proofs.YtjdfihglehfelaaGreatDoor
