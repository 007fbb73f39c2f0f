/- Lemmas: MkA, MkC. -/
import Derived.Test.YtaagglbgohjldaaGreatDoorQv01
import Derived.WalkSpells
import Derived.WalkLawsBesides
import Derived.StillTailTactics
import Derived.Deep.DeepCutAuto
import Derived.Deep.CutBlock
set_option maxRecDepth 100000
set_option maxHeartbeats 32000000
set_option linter.all false
namespace Go.Proofs.YtaagglbgohjldaaGreatDoor
open Go.Proofs.Tryz
open Go.RowKit
variable {F G ok ok' X:Nat->Prop}{a w w' w1 w2:World}{b B i sz bs bb n k d nb ki N:Nat}{p:Addr}{cs:Array Value}{t:TypeId}{z:Int}{α:Type}{v nv vv:Value}{next:List Int}{xs:List Value}
abbrev lA:=@Go.Maps.keyOf_int_mk
abbrev Cl:=@Go.Lib.run_eql_slice_nil
structure cR (F:Nat->Prop)(w w':World):Prop where
 os:w'.os=w.os
 tape:w'.tape=w.tape
 output:w'.output=w.output
 size:w.heap.size<=w'.heap.size
 block:∀ k,k<w.heap.size->¬ F k->w'.heap[k]?=w.heap[k]?
theorem cR.refl (F:Nat->Prop)(w:World):cR F w w:=⟨rfl,rfl,rfl,bk _,fun _ _ _=>rfl⟩
theorem cR.trans {b c:World}(h:cR F a b)(k:cR G b c)(hG:∀ i,G i->F i\/a.heap.size<=i):cR F a c :=
 ⟨k.os.trans h.os,k.tape.trans h.tape,k.output.trans h.output,cA h.size k.size,fun i hi hF=>(k.block i (cC hi h.size) (fun g=>(hG i g).elim hF TcC)).trans (h.block i hi hF)⟩
theorem cR.of_below {b:World}(h:Below a.heap.size a b):cR F a b:=⟨h.os,h.tape,h.output,h.size,fun i hi _=>h.block i hi⟩
theorem cR.cell (h:cR F w w')(hp:p.block<w.heap.size)(hF:¬ F p.block):w'.cell? p=w.cell? p:=cd (w:=w) (h.block p.block hp hF)
theorem TcR {p:Prop}(h:p:=by simp [World.setCell]):p:=h
theorem cR.setCell (h:cR F a w)(hp:F p.block\/a.heap.size<=p.block)(u:Value):cR F a (w.setCell p u) :=
 h.trans (G:=fun k=>k=p.block) ⟨rfl,rfl,rfl,TcR,fun k _ hne=>bw _ _ _ _ hne⟩ (fun i e=>by subst e;exact hp)
theorem cR.drewN (h:cR F a w)(n:Nat):cR F a (w.drewN n):=⟨h.os,h.tape,h.output,h.size,h.block⟩
theorem cR.below (h:cR F w w')(hB:B<=w.heap.size)(hF:∀ k,F k->B<=k):Below B w w' :=
 ⟨h.os,h.tape,h.output,h.size,fun k hk=>h.block k TcC (fun f=>by have:=hF k f;omega)⟩
theorem cR.mono (h:cR F w w')(ZF:∀ k,F k->G k):cR G w w':=⟨h.os,h.tape,h.output,h.size,fun k hk hn=>h.block k hk (fun f=>hn (ZF k f))⟩
theorem Tea {p:Prop}(h:p:=by simpa using hlt):p:=h
theorem block_setCell {z:Nat × Nat}(u:Value)(h:w.heap[b]?=some (.cells cs t z)):(w.setCell (b,i) u).heap[b]?=some (.cells (cs.setIfInBounds i u) t z):=by
 have hlt:=aq h;have h':w.heap[b]=.cells cs t z:=by simpa [aa0 hlt] using h
 show (w.heap.modify b _)[b]?=_;rw [aa0 Tea,Array.getElem_modify_self,h'];rfl
def Dq (w:World)(b:Nat)(l:List Int)(k:Nat):Prop :=
 ∃ p cap,w.heap[b]?=some (.cells #[.slice p l.length cap,.int .i64 k] 57 (0,0))/\k<=l.length/\l.length<=1000/\l.length<=cap/\cap<=9223372036854775807 /\
  (∀ x∈l,-9223372036854775808<=x/\x<=9223372036854775807)/\(0<l.length->∃ g off,p=some ⟨g,off,none⟩/\g<b/\ig w g off l)
def Src (w:World)(b:Nat):Prop:=∃ l k,Dq w b l k
def CZ (lo hi:Int)(b:Nat)(w:World)(e:Ending)(w':World):Prop:=∃ v:Int,e=.returned (.int .i64 v)/\lo<=v/\v<=hi/\(∃ l k,Dq w' b l k)/\cR (fun i=>i=b) w w'
theorem EB (b k:Nat)(l:List Int)(w:World)(h:Dq w b l k) :
  Calls prog 51 #[.pointer (some b)] w (CZ (-9223372036854775808) 9223372036854775807 b w):=by
 obtain ⟨p,cap,hb,hk,hl,hlc,ij,hi,hp⟩:=h;have hc0:=cr hb 0 _ rfl;have hc1:=cr hb 1 _ rfl;have hf1:w.frozen? (Tac b 1)=false:=by simp [World.frozen?,hb]
 have gO:b<w.heap.size:=aq hb;have HB:=aa hb;clear hb;have HP:=aa hp;clear hp;have HI:=aa hi;clear hi;by_cases hlt:k<l.length
 ·obtain ⟨g,off,rfl,hgb,hc⟩:=HP.o TcC;have hg:g<w.heap.size:=by omega
  have OH:g≠b:=by omega
  obtain ⟨x,hx⟩:=aj l k hlt;have OI:=hc k x hx;have HX:=aa hx;clear hx;have HC:=aa hc;clear hc;have hd:decide (l.length<=k)=false:=by simp;omega
  go_enter func51,ntmps51;go_wp2;go_quiet (fail);go_wp2;go_quiet (fail);go_wp2;go_ret;have QF:=HI.o x (ct HX.o);refine ⟨x,rfl,QF.1,QF.2,⟨l,k+1,some ⟨g,off,none⟩,cap,?_,TcC,hl,hlc,ij,HI.o,fun _=>⟨g,off,rfl,hgb,fun i n hn=>?_⟩⟩,?_⟩
  ·exact block_setCell (w:=w.drewN _) (cs:=#[_,.int .i64 (k:Int)]) (i:=1) _ HB.o
  ·exact (cd (w:=w) (bw _ _ _ _ OH)).trans (HC.o i n hn)
  exact (((cR.refl (fun i=>i=b) w).drewN _).setCell (p:=⟨b,1,none⟩) (.inl rfl) _).drewN _
 have hd:decide (l.length<=k)=true:=by simp;omega
 go_enter func51,ntmps51;go_wp2;go_quiet (fail);go_wp2;go_ret;exact ⟨0,rfl,TcC,TcC,⟨l,k,p,cap,HB.o,hk,hl,hlc,ij,HI.o,HP.o⟩,(cR.refl _ w).drewN _⟩
theorem bY (b:Nat)(n:Int)(w:World)(hn1:1<=n)(hn2:n<=1000000)(h:Src w b) :
  Calls prog 15 #[.pointer (some b),.int .i64 n] w (CZ 0 (n - 1) b w):=by
 obtain ⟨l,k,h⟩:=h;go_enter func15,ntmps15
 go_wp2_with fail;refine (EB b k l _ h).mono ?_;rintro e w1 ⟨v,rfl,hv1,hv2,hs,hm⟩;have hm1:=Int.tmod_lt_of_pos v (show 0<n by omega);have hm2:=Int.lt_tmod_of_pos v (show 0<n by omega);go_wp2
 all_goals
  go_ret;refine ⟨_,rfl,?_,?_,hs,hm⟩ <;> omega
theorem bO (b:Nat)(lo hi:Int)(w:World)(h1:0<=lo)(h2:lo<=hi)(h3:hi<=100000)(h:Src w b) :
  Calls prog 18 #[.pointer (some b),.int .i64 lo,.int .i64 hi] w (CZ lo hi b w):=by
 go_enter func18,ntmps18
 go_wp2_with fail;refine (bY b _ _ TcC TcC h).mono ?_;rintro e w1 ⟨v,rfl,hv1,hv2,hs,hm⟩;go_wp2;go_ret;exact ⟨_,rfl,TcC,TcC,hs,hm⟩
def Fy (l:List Int)(b:Nat)(w:World)(e:Ending)(w':World):Prop:=∃ v:Int,e=.returned (.int .i64 v)/\v∈l/\Src w' b/\cR (fun i=>i=b) w w'
theorem jD (b g cap:Nat)(l:List Int)(w:World)(h0:0<l.length)(h1:l.length<=1000)(_hc1:l.length<=cap)(_hc2:cap<=9223372036854775807)(hg:g<w.heap.size)(hgb:g≠b)(hc:ig w g 0 l)(h:Src w b) :
  Calls prog 16 #[.pointer (some b),.slice (some g) l.length cap] w (Fy l b w):=by
 have HC:=aa hc;clear hc;go_enter func16,ntmps16
 go_wp2_with fail;refine (bY b _ _ TcC TcC h).mono ?_;rintro e w1 ⟨v,rfl,hv1,hv2,hs,hm⟩;obtain ⟨k,rfl⟩:=D4 hv1;obtain ⟨x,hx⟩:=aj l k TcC;have OI:w1.cell? (g,k)=some (.int .i64 x):=by
  rw [hm.cell hg hgb];simpa using HC.o k x hx
 have HX:=aa hx;clear hx;have hkl:k<l.length:=by omega
 go_wp2;go_ret;exact ⟨x,rfl,ct HX.o,hs,hm⟩
theorem ED (l:List Int)(v:Value)(w:World)(h:Hs w v l)(hl:∀ x∈l,-9223372036854775808<=x/\x<=9223372036854775807) :
  Calls prog 5 #[v] w fun e w'=>e=.returned (.pointer (some w.heap.size))/\Src w' w.heap.size/\w.heap.size<w'.heap.size/\Below w.heap.size w w':=by
 obtain ⟨p,cap,rfl,hlc,ij,hp⟩:=h;have HP:=aa hp;clear hp;have HL:=aa hl;clear hl;by_cases hlt:1000<l.length
 ·obtain ⟨g,off,rfl,hg,hc⟩:=HP.o TcC;have HC:=aa hc;clear hc;have hcc:¬ cap=1000:=by omega
  have kB:1000<=cap:=by omega
  go_enter func5,ntmps5;go_wp2;go_ret;refine ⟨rfl,⟨l.take 1000,0,some ⟨g,off,none⟩,cap,?_,TcC,TcH,TcH,ij,fun x hx=>HL.o x (tR hx),fun _=>⟨g,off,rfl,hg,fun i n hn=>?_⟩⟩,TcD,?_⟩
  ·rw [b9,ey,Nat.min_eq_left TcC];rfl
  ·have hi:i<1000:=by have:=(List.getElem?_eq_some_iff.1 hn).1;simp at this;omega
   rw [ri hi] at hn;exact (cd (w:=w) (cj _ _ _ hg)).trans (HC.o i n hn)
  exact (bj _ _).alloc (bk _) _
 go_enter func5,ntmps5
 go_wp2;go_ret;refine ⟨rfl,⟨l,0,p,cap,?_,TcC,TcC,hlc,ij,HL.o,fun h0=>?_⟩,TcD,?_⟩
 ·rw [b9];rfl
 ·obtain ⟨g,off,e,hg,hc⟩:=HP.o h0;exact ⟨g,off,e,hg,fun i n hn=>(cd (w:=w) (cj _ _ _ hg)).trans (hc i n hn)⟩
 exact (bj _ _).alloc (bk _) _
theorem Src.keep (h:Src w b)(hk:∀ i,i<=b->w'.heap[i]?=w.heap[i]?):Src w' b:=by
 obtain ⟨l,k,p,cap,hb,h1,h2,h3,h4,h5,hp⟩:=h;refine ⟨l,k,p,cap,(hk b (bk _)).trans hb,h1,h2,h3,h4,h5,fun h0=>?_⟩;obtain ⟨g,off,e,hg,hc⟩:=hp h0;exact ⟨g,off,e,hg,fun i n hn=>(cd (w:=w) (hk g TcC)).trans (hc i n hn)⟩
theorem Src.lt (h:Src w b):b<w.heap.size:=by
 obtain ⟨l,k,p,cap,hb,_⟩:=h;exact aq hb
structure aR where
 vol:Bool
 on:ByteArray
 start:Int
structure aB where
 start:Int
 length:Int
 kind:Int
 Ga:List aR
 chunk:Int
 stale:List Int
 log:ByteArray
 pool:ByteArray
 device:Int
 mode:Int
 done:Int
structure ay where
 name:ByteArray
 id:Int
 hidden:Bool
 ro:Bool
 tags:List ByteArray
 Gf:List aB
structure az where
 name:ByteArray
 id:Int
 first:Int
 Gc:Int
 closed:Bool
 missing:Bool
 tags:List ByteArray
structure af where
 name:ByteArray
 id:Int
 seq:Int
 Gd:Int
 next:Int
 tags:List ByteArray
 Gb:List az
 F9:List ay
 history:List (ByteArray × Int × Int)
abbrev jx (α:Type):=(Nat->Prop)->World->List Value->α->Prop
def oh {α:Type}(V:jx α)(sz:Nat)(ok:Nat->Prop)(w:World)(b off:Nat)(l:List α):Prop :=
 ∀ (i:Nat) (x:α),l[i]?=some x->∃ u:List Value,u.length=sz/\V ok w u x/\∀ (j:Nat) (z:Value),u[j]?=some z->w.cell? (b,off+i*sz+j)=some z
def ck {α:Type}(V:jx α)(sz:Nat):jx (List α):=fun ok w vs l =>
 ∃ p cap,vs=[.slice p l.length cap]/\l.length<=cap/\cap<=9223372036854775807/\(0<l.length->∃ b off,p=some ⟨b,off,none⟩/\b<w.heap.size/\ok b/\oh V sz ok w b off l)
def cO:jx Int:=fun _ _ vs x=>vs=[.int .i64 x]
def aF:jx ByteArray:=fun _ _ vs x=>vs=[.string x]
def aQ:jx aR:=fun _ _ vs x=>vs=[.bool x.vol,.string x.on,.int .i64 x.start]
def bC:jx aB:=fun ok w vs x=>∃ a s,vs=[.int .i64 x.start,.int .i64 x.length,.int .i64 x.kind,a,.int .i64 x.chunk,s,.string x.log,.string x.pool,.int .i64 x.device,.int .i64 x.mode,.int .i64 x.done] /\
 ck aQ 3 ok w [a] x.Ga/\ck cO 1 ok w [s] x.stale
def aN:jx ay:=fun ok w vs x=>∃ t s,vs=[.string x.name,.int .u64 x.id,.bool x.hidden,.bool x.ro,t,s]/\ck aF 1 ok w [t] x.tags/\ck bC 11 ok w [s] x.Gf
def aO:jx az:=fun ok w vs x=>∃ t,vs=[.string x.name,.int .u64 x.id,.int .i64 x.first,.int .i64 x.Gc,.bool x.closed,.bool x.missing,t]/\ck aF 1 ok w [t] x.tags
def lF:jx (ByteArray × Int × Int):=fun _ _ vs x=>vs=[.string x.1,.int .u64 x.2.1,.int .i64 x.2.2]
def EU:jx af:=fun ok w vs x=>∃ t d v h,vs=[.string x.name,.int .u64 x.id,.int .i64 x.seq,.int .i64 x.Gd,.int .i64 x.next,t,d,v,h] /\
 ck aF 1 ok w [t] x.tags/\ck aO 7 ok w [d] x.Gb/\ck aN 6 ok w [v] x.F9/\ck lF 3 ok w [h] x.history
def Mv (ok ok':Nat->Prop)(w w':World):Prop:=w.heap.size<=w'.heap.size/\∀ b,b<w.heap.size->ok b->ok' b/\w'.heap[b]?=w.heap[b]?
structure Moves {α:Type}(V:jx α):Prop where
 mv:∀ {ok ok':Nat->Prop} {w w':World} {u:List Value} {x:α},Mv ok ok' w w'->V ok w u x->V ok' w' u x
theorem oh.moves {V:jx α}(hV:Moves V){off:Nat}{l:List α}(hm:Mv ok ok' w w')(hb:b<w.heap.size)(ho:ok b)(h:oh V sz ok w b off l):oh V sz ok' w' b off l:=fun i x hx=>by
 obtain ⟨u,hu,hv,hc⟩:=h i x hx;exact ⟨u,hu,hV.mv hm hv,fun j z hz=>(cd (w:=w) (hm.2 b hb ho).2).trans (hc j z hz)⟩
theorem ck.moves {V:jx α}(hV:Moves V):Moves (ck V sz):=⟨fun hm h=>by
 obtain ⟨p,cap,e,h1,h2,h3⟩:=h;refine ⟨p,cap,e,h1,h2,fun h0=>?_⟩;obtain ⟨b,off,ep,hb,ho,hc⟩:=h3 h0;exact ⟨b,off,ep,cC hb hm.1,(hm.2 b hb ho).1,hc.moves hV hm hb ho⟩⟩
theorem cO.moves:Moves cO:=⟨fun _ h=>h⟩
theorem aF.moves:Moves aF:=⟨fun _ h=>h⟩
theorem aQ.moves:Moves aQ:=⟨fun _ h=>h⟩
theorem lF.moves:Moves lF:=⟨fun _ h=>h⟩
theorem bC.moves:Moves bC:=⟨fun hm ⟨a,s,e,h1,h2⟩=>⟨a,s,e,(ck.moves aQ.moves).mv hm h1,(ck.moves cO.moves).mv hm h2⟩⟩
theorem aN.moves:Moves aN:=⟨fun hm ⟨t,s,e,h1,h2⟩=>⟨t,s,e,(ck.moves aF.moves).mv hm h1,(ck.moves bC.moves).mv hm h2⟩⟩
theorem aO.moves:Moves aO:=⟨fun hm ⟨t,e,h1⟩=>⟨t,e,(ck.moves aF.moves).mv hm h1⟩⟩
def Flat {α:Type}(V:jx α)(sz:Nat)(ok:Nat->Prop)(w:World):List Value->List α->Prop
 | cs,[]=>cs=[]
 | cs,x :: l=>∃ u r,cs=u++r/\u.length=sz/\V ok w u x/\(∀ z∈u,z.oneCell'=true)/\Flat V sz ok w r l
def bF {α:Type}(V:jx α)(sz:Nat)(t:TypeId)(B:Nat)(ok:Nat->Prop)(w:World)(v:Value)(l:List α):Prop:=∃ cs,w.ownsRow B t sz v l.length cs/\Flat V sz ok w cs l
theorem Flat.moves {V:jx α}(hV:Moves V)(hm:Mv ok ok' w w'):∀ (l:List α) (cs:List Value),Flat V sz ok w cs l->Flat V sz ok' w' cs l
 | [],_,h=>h
 | _ :: l,_,⟨u,r,e,h1,h2,h3,h4⟩=>⟨u,r,e,h1,hV.mv hm h2,h3,Flat.moves hV hm l r h4⟩
theorem Flat.append {V:jx α}{m:List α}{ds:List Value}(k:Flat V sz ok w ds m):∀ (l:List α) (cs:List Value),Flat V sz ok w cs l->Flat V sz ok w (cs++ds) (l++m)
 | [],cs,h=>by
  simp only [Flat] at h;subst h;exact k
 | _ :: l,_,⟨u,r,e,h1,h2,h3,h4⟩=>⟨u,r++ds,by rw [e,cV],h1,h2,h3,Flat.append k l r h4⟩
theorem Flat.one {V:jx α}{u:List Value}{x:α}(h1:u.length=sz)(h2:V ok w u x)(h3:∀ z∈u,z.oneCell'=true):Flat V sz ok w u [x]:=⟨u,[],TcD,h1,h2,h3,rfl⟩
theorem Flat.length {V:jx α}:∀ (l:List α) (cs:List Value),Flat V sz ok w cs l->cs.length=l.length*sz
 | [],cs,h=>by
  simp only [Flat] at h;simp [h]
 | _ :: l,_,⟨u,r,e,h1,h2,h3,h4⟩=>by
  have:=Flat.length l r h4;rw [e,cD,this,h1,cS,Oy];omega
theorem Flat.get {V:jx α}:∀ (l:List α) (cs:List Value),Flat V sz ok w cs l->∀ (i:Nat) (x:α),l[i]?=some x->∃ u:List Value,u.length=sz/\V ok w u x/\∀ (j:Nat) (z:Value),u[j]?=some z->cs[i*sz+j]?=some z
 | [],_,_,i,x,hx=>by simp at hx
 | y :: l,cs,⟨u,r,e,h1,h2,h3,h4⟩,i,x,hx=>by
  cases i with
  | zero =>
   simp at hx;subst hx;refine ⟨u,h1,h2,fun j z hz=>?_⟩;have hj:=(List.getElem?_eq_some_iff.1 hz).1;rw [e,Nat.zero_mul,eJ,Fo hj];exact hz
  | succ i =>
   obtain ⟨u',k1,k2,k3⟩:=Flat.get l r h4 i x TdL;refine ⟨u',k1,k2,fun j z hz=>?_⟩;rw [e,Cp (by rw [h1,Oy];omega),h1,show (i+1)*sz+j - sz=i*sz+j from by rw [Oy];omega];exact k3 j z hz
theorem bF.rd {V:jx α}{l:List α}(hV:Moves V)(h:bF V sz t B ok w v l)(_hsz:0<sz)(gw:∀ b,b<w.heap.size->ok b->ok' b)(hown:∀ b,v.ownBlock=some b->ok' b):ck V sz ok' w [v] l:=by
 obtain ⟨cs,⟨h1,h2⟩,hf⟩:=h;rcases h2 with ⟨rfl,hn⟩ | ⟨g,cap,cur,rfl,hb,hg,vr,hcm,hcs,ht⟩
 ·exact Tci
 refine ⟨some ⟨g,0,none⟩,cap,rfl,vr,TcV,fun _=>⟨g,0,rfl,(Array.getElem?_eq_some_iff.1 hg).1,hown g rfl,fun i x hx=>?_⟩⟩;have hil:i<l.length:=(List.getElem?_eq_some_iff.1 hx).1;obtain ⟨u,k1,k2,k3⟩:=Flat.get l cs hf i x hx;refine ⟨u,k1,hV.mv ⟨bk _,fun b hb' ho=>⟨gw b hb' ho,rfl⟩⟩ k2,fun j z hz=>?_⟩;have hc:=k3 j z hz;have hj:=(List.getElem?_eq_some_iff.1 hz).1;have hlt:i*sz+j<l.length*sz:=by
  have:(i+1)*sz<=l.length*sz:=tA _ hil;rw [Oy] at this;omega
 rw [<- ht,ri TcC] at hc;rw [cell_of_row w g (0+i*sz+j) cur _ (0,0) hg,eJ];simpa using hc
def okB (X:Nat->Prop)(bb:Nat)(nv vv:Value):Nat->Prop:=fun b=>bb<b/\nv.ownBlock≠some b/\vv.ownBlock≠some b/\¬ X b
def QD (bs bb:Nat)(nv vv:Value):Nat->Prop:=fun k=>k=bs\/k=bb\/nv.ownBlock=some k\/vv.ownBlock=some k
def Fp (hv:Value)(l:List (ByteArray × Int × Int)):Prop:=hv=.slice none 0 0/\l=[]
def TaJ (x0:Option Addr)(x1:af)(x2:Value)(x3:Value)(x4:Value)(x5:Value)(x6:Value):Tab #[.pointer x0,.string x1.name,.int .u64 x1.id,.int .i64 x1.seq,.int .i64 x1.Gd,.int .i64 x1.next,x2,x3,x4,x5,x6]:=⟨⟩
structure eW (X:Nat->Prop)(w:World)(bs bb:Nat)(nv vv:Value)(g:af)(next:List Int):Prop where
 src:Src w bs
 lt:bs<bb
 blk:∃ tv dv hv,w.heap[bb]?=some (.cells (TaJ (some ⟨bs,0,none⟩) g tv dv vv hv nv) 60 (0,0)) /\
  ck aF 1 (okB X bb nv vv) w [tv] g.tags/\ck aO 7 (okB X bb nv vv) w [dv] g.Gb/\Fp hv g.history
 ownN:eG w (bb+1) nv next
 ownV:bF aN 6 68 (bb+1) (okB X bb nv vv) w vv g.F9
 ne:∀ k,nv.ownBlock=some k->vv.ownBlock≠some k
 xlt:∀ k,X k->bb<k/\k<w.heap.size
 xn:∀ k,nv.ownBlock=some k->¬ X k
 xv:∀ k,vv.ownBlock=some k->¬ X k
variable {g:af}
theorem eW.Gj (h:eW X w bs bb nv vv g next):bb<w.heap.size:=by
 obtain ⟨tv,dv,hv,e,_⟩:=h.blk;exact aq e
theorem eF (h:w.ownsRow B t sz v n xs)(hk:∀ k,B<=k->k<w.heap.size->w'.heap[k]?=w.heap[k]?):w'.ownsRow B t sz v n xs:=by
 obtain ⟨h1,h2⟩:=h;refine ⟨h1,?_⟩;rcases h2 with hn | ⟨g,cap,cur,hv,pC,hg,r⟩
 ·exact .inl hn
 exact .inr ⟨g,cap,cur,hv,pC,by rw [hk g pC (Array.getElem?_eq_some_iff.1 hg).1];exact hg,r⟩
theorem aC (h:w.ownsRow B t sz v n xs)(hk:∀ k,v.ownBlock=some k->w'.heap[k]?=w.heap[k]?):w'.ownsRow B t sz v n xs:=by
 obtain ⟨h1,h2⟩:=h;refine ⟨h1,?_⟩;rcases h2 with hn | ⟨g,cap,cur,rfl,pC,hg,r⟩
 ·exact .inl hn
 exact .inr ⟨g,cap,cur,rfl,pC,by rw [hk g rfl];exact hg,r⟩
theorem eW.nLt (h:eW X w bs bb nv vv g next)(e:nv.ownBlock=some k):bb<k/\k<w.heap.size:=by
 have:=h.ownN.lt k e;omega
theorem eW.vLt (h:eW X w bs bb nv vv g next)(e:vv.ownBlock=some k):bb<k/\k<w.heap.size:=by
 obtain ⟨cs,ho,_⟩:=h.ownV;have:=ho.lt k e;omega
theorem eW.keep (h:eW X w bs bb nv vv g next)(hs:Src w' bs)(hz:w.heap.size<=w'.heap.size)(hk:∀ k,bb<=k->k<w.heap.size->¬ X k->w'.heap[k]?=w.heap[k]?):eW X w' bs bb nv vv g next:=by
 have hm:Mv (okB X bb nv vv) (okB X bb nv vv) w w':=⟨hz,fun b hb ho=>⟨ho,hk b (Nat.le_of_lt ho.1) hb ho.2.2.2⟩⟩;refine ⟨hs,h.lt,?_,?_,?_,h.ne,fun k hx=>⟨(h.xlt k hx).1,cC (h.xlt k hx).2 hz⟩,h.xn,h.xv⟩
 ·obtain ⟨tv,dv,hv,e,h1,h2,h3⟩:=h.blk;exact ⟨tv,dv,hv,(hk bb (bk _) h.Gj (fun hx=>Nat.lt_irrefl _ (h.xlt _ hx).1)).trans e,(ck.moves aF.moves).mv hm h1,(ck.moves aO.moves).mv hm h2,h3⟩
 ·exact aC h.ownN fun k e=>hk k (Nat.le_of_lt (h.nLt e).1) (h.nLt e).2 (h.xn k e)
 have mb:=fun k e=>h.vLt (k:=k) e
 obtain ⟨cs,ho,hf⟩:=h.ownV;exact ⟨cs,aC ho fun k e=>hk k (Nat.le_of_lt (mb k e).1) (mb k e).2 (h.xv k e),Flat.moves aN.moves hm _ _ hf⟩
theorem eW.read (h:eW X w bs bb nv vv g next)(hs:Src w' bs)(hm:cR (fun i=>i=bs) w w'):eW X w' bs bb nv vv g next :=
 h.keep hs hm.size fun k h1 h2 _=>hm.block k h2 (by have:=h.lt;omega)
theorem Tep {p:Prop}(h:p:=by have:=h.lt;have:=h.Gj;omega):p:=h
theorem eW.below (h:eW X w bs bb nv vv g next)(hb:Below w.heap.size w w'):eW X w' bs bb nv vv g next :=
 h.keep (h.src.keep fun i hi=>hb.block i Tep) hb.size fun k _ h2 _=>hb.block k h2
theorem Tdj {p:Prop}(h:p:=by have:=ho.1;omega):p:=h
theorem eW.put (h:eW X w bs bb nv vv g next)(g':af)(hz:w.heap.size<=w'.heap.size)(hk:∀ k,k≠bb->k<w.heap.size->w'.heap[k]?=w.heap[k]?)
  (hb:∀ tv dv hv,w.heap[bb]?=some (.cells (TaJ (some ⟨bs,0,none⟩) g tv dv vv hv nv) 60 (0,0)) ->
   w'.heap[bb]?=some (.cells (TaJ (some ⟨bs,0,none⟩) g' tv dv vv hv nv) 60 (0,0)))
  (ht:g'.tags=g.tags) (hd:g'.Gb=g.Gb) (hh:g'.history=g.history) (hv:g'.F9=g.F9):eW X w' bs bb nv vv g' next:=by
 have hm:Mv (okB X bb nv vv) (okB X bb nv vv) w w':=⟨hz,fun b hb ho=>⟨ho,hk b Tdj hb⟩⟩;have hl:=h.lt;have hbl:=h.Gj;refine ⟨h.src.keep fun i hi=>hk i TcC TcC,hl,?_,?_,?_,h.ne,fun k hx=>⟨(h.xlt k hx).1,cC (h.xlt k hx).2 hz⟩,h.xn,h.xv⟩
 ·obtain ⟨tv,dv,hv,e,h1,h2,h3⟩:=h.blk;exact ⟨tv,dv,hv,hb tv dv hv e,by rw [ht];exact (ck.moves aF.moves).mv hm h1,by rw [hd];exact (ck.moves aO.moves).mv hm h2,by rw [hh];exact h3⟩
 ·exact eF h.ownN fun k hk1 hk2=>hk k TcC hk2
 obtain ⟨cs,ho,hf⟩:=h.ownV;rw [hv];exact ⟨cs,eF ho fun k hk1 hk2=>hk k TcC hk2,Flat.moves aN.moves hm _ _ hf⟩
@[irreducible] def oX (i n:Int):Int:=(i*2862933555777941757+n*3037000493) % 18446744073709551616
theorem uO (i n:Int)(w:World)(hn:0<=n)(hn2:n<=1000000000) :
  Calls prog 98 #[.int .u64 i,.int .i64 n] w fun e w'=>e=.returned (.int .u64 (oX i n))/\w'=w:=by
 go_enter func98,ntmps98;go_wp2;go_ret
 have e:IntKind.u64.wrap (IntKind.u64.wrap (i*2862933555777941757)+n*3037000493)=oX i n:=by
  unfold oX;rw [IntKind.wrap_u64,IntKind.wrap_u64];omega
 exact ⟨by rw [<- e];rfl,rfl⟩
structure aH (X:Nat->Prop)(bs bb:Nat)(nv vv:Value)(w w':World)(nv' pA:Value)(g':af)(next':List Int):Prop where
 bld:eW X w' bs bb nv' pA g' next'
 mod:cR (QD bs bb nv vv) w w'
 nfr:∀ k,nv'.ownBlock=some k->nv.ownBlock=some k\/w.heap.size<=k
 vfr:∀ k,pA.ownBlock=some k->vv.ownBlock=some k\/w.heap.size<=k
theorem vS (X:Nat->Prop)(bs bb:Nat)(nv vv:Value)(g:af)(next:List Int)(w:World)(h:eW X w bs bb nv vv g next)(hn:0<=g.next)(hn2:g.next<=100000000) :
  Calls prog 52 #[.pointer (some bb)] w fun e w'=>e=.returned (.int .u64 (oX g.id (g.next+1)))/\aH X bs bb nv vv w w' nv vv { g with next:=g.next+1 } next:=by
 obtain ⟨tv,dv,hv,hb,h1,h2,h3⟩:=h.blk;have c1:=cr hb 5 _ rfl;have f1:w.frozen? (Tac bb 5)=false:=by simp [World.frozen?,hb]
 have c2:=cr hb 2 _ rfl;have gO:=h.Gj;have HB:=aa hb;clear hb;go_enter func52,ntmps52
 have hw1:(w.setCell (Tac bb 5) (.int .i64 (g.next+1))).cell? (Tac bb 5)=some (.int .i64 (g.next+1)):=by
  have:=block_setCell (i:=5) (.int .i64 (g.next+1)) HB.o;simp [World.cell?,this]
 have hw2:(w.setCell (Tac bb 5) (.int .i64 (g.next+1))).cell? (Tac bb 2)=some (.int .u64 g.id):=by
  have:=block_setCell (i:=5) (.int .i64 (g.next+1)) HB.o;simp [World.cell?,this]
 go_wp2;generalize hW:w.setCell (Tac bb 5) (.int .i64 (g.next+1))=W at *;have HW:=aa hW;clear hW;go_quiet ((go_at_call 98;exact po (uO _ _ _ TcC TcC)));go_wp2;go_ret;have hW:=HW.o;subst hW;refine ⟨rfl,?_,?_,fun k hk=>.inl hk,fun k hk=>.inl hk⟩
 ·exact h.put _ TcR (fun k hk _=>bw _ _ _ _ hk) (fun tv dv hv e=>block_setCell (cs:=#[_,_,_,_,_,_,_,_,_,_,_]) (i:=5) _ e) rfl rfl rfl rfl
 exact ((cR.refl (QD bs bb nv vv) w).setCell (p:=⟨bb,5,none⟩) (.inl (.inr (.inl rfl))) _).drewN _
theorem eW.at (h:eW X w bs bb nv vv g next){D:az}{m:Int}(hd:g.Gb[d]?=some D)(hn:next[d]?=some m) :
  ∃ db as3 ir nb ki,w.cell? bb=some (.pointer (some bs))/\w.cell? (Tac bb 7)=some (.slice (some ⟨db,as3,none⟩) g.Gb.length ir)/\nv=.slice (some ⟨nb,0,none⟩) next.length ki/\w.cell? (Tac bb 10)=some (.slice (some ⟨nb,0,none⟩) next.length ki) /\
   w.cell? (nb,d)=some (.int .i64 m)/\w.frozen? (nb,d)=false/\w.cell? (db,as3+d*7)=some (.string D.name)/\w.cell? (db,as3+d*7+3)=some (.int .i64 D.Gc) /\
   g.Gb.length<=ir/\ir<=9223372036854775807/\next.length<=ki/\ki<=9223372036854775807/\bb<nb/\nb<w.heap.size/\bb<db/\db≠nb/\db<w.heap.size/\d<g.Gb.length/\d<next.length:=by
 have CD:d<g.Gb.length:=(List.getElem?_eq_some_iff.1 hd).1;have zr:d<next.length:=(List.getElem?_eq_some_iff.1 hn).1;obtain ⟨tv,dv,hv,e,_,h2,_⟩:=h.blk;obtain ⟨p,ir,ed,k1,k2,k3⟩:=h2;obtain ⟨db,as3,rfl,k4,k5,k6⟩:=k3 TcC;simp only [rp,and_true] at ed;subst ed;obtain ⟨u,u1,⟨t,rfl,_⟩,u3⟩:=k6 d D hd;have ho:=h.ownN;have ho2:=ho;rcases ho2.2 with ⟨_,hz⟩ | ⟨nb,ki,cur,rfl,hb,hg,vr,hcm,hcs,ht⟩
 ·omega
 refine ⟨db,as3,ir,nb,ki,cr e _ _ rfl,cr e _ _ rfl,rfl,cr e _ _ rfl,?_,ho.frozenAt _,?_,?_,k1,k2,vr,TcV,TcC,(Array.getElem?_eq_some_iff.1 hg).1,k5.1,?_,k4,CD,zr⟩
 ·have:=ho.cellAt d TcC;rw [this];simp [hn]
 ·simpa using u3 0 _ rfl
 ·simpa using u3 3 _ rfl
 intro e;exact k5.2.1 (by rw [e];rfl)
theorem eW.setNext (h:eW X w bs bb (.slice (some nb) next.length ki) vv g next)(d:Nat)(z:Int):eW X (w.setCell (nb,d) (.int .i64 z)) bs bb (.slice (some nb) next.length ki) vv g (next.set d z):=by
 have hown:=h.ownN;have sy:bb<nb:=by have:=hown.lt nb rfl;omega
 have hl:=h.lt;have hk:∀ k,k≠nb->(w.setCell (nb,d) (.int .i64 z)).heap[k]?=w.heap[k]?:=fun k hk=>bw _ _ _ _ hk;have hz:w.heap.size<=(w.setCell (nb,d) (.int .i64 z)).heap.size:=by simp [World.setCell]
 have hm:Mv (okB X bb (.slice (some nb) next.length ki) vv) (okB X bb (.slice (some nb) next.length ki) vv) w (w.setCell (nb,d) (.int .i64 z)):=⟨hz,fun b _ ho=>⟨ho,hk b (fun e=>ho.2.1 (by rw [e];rfl))⟩⟩;refine ⟨h.src.keep fun i hi=>hk i TcC,hl,?_,?_,?_,h.ne,fun k hx=>⟨(h.xlt k hx).1,cC (h.xlt k hx).2 hz⟩,h.xn,h.xv⟩
 ·obtain ⟨tv,dv,hv,e,h1,h2,h3⟩:=h.blk;exact ⟨tv,dv,hv,(hk bb TcC).trans e,(ck.moves aF.moves).mv hm h1,(ck.moves aO.moves).mv hm h2,h3⟩
 ·have h2:=(hown.stored d (.int .i64 z)).1;unfold eG;rw [List.length_set,List.map_set];exact h2
 obtain ⟨cs,ho,hf⟩:=h.ownV;refine ⟨cs,?_,Flat.moves aN.moves hm _ _ hf⟩;exact ownsRow_setCell_other ho (fun e=>h.ne nb rfl e) _
theorem eW.readPost (h:eW X w bs bb nv vv g next)(hs:Src w' bs)(hm:cR (fun i=>i=bs) w w'):aH X bs bb nv vv w w' nv vv g next :=
 ⟨h.read hs hm,hm.mono (fun _ hk=>.inl hk),fun _ hk=>.inl hk,fun _ hk=>.inl hk⟩
theorem fu {o:Nat}(hb:b<w.heap.size)(h:w.cell? (b,o)=some v):((w.drewN N).alloc (.cells cs t)).cell? (b,o)=some v :=
 (cd (w:=w) (cj (w.drewN N) _ _ hb)).trans h
theorem Jl :((w.drewN N).alloc (.cells cs t)).frozen? (w.heap.size,i)=false:=by
 have h:((w.drewN N).alloc (.cells cs t)).heap[w.heap.size]?=some (.cells cs t (0,0)):=b9 (w.drewN N) _;unfold World.frozen?;simp only [h];simp
theorem mD {b:World}{u:Value}(h:a.heap[p.block]?=b.heap[p.block]?):(a.setCell p u).heap[p.block]?=(b.setCell p u).heap[p.block]?:=by
 simp only [World.setCell,BW,ej];rw [h]
theorem cR.alloc (h:cR F a w)(o:Obj):cR F a (w.alloc o) :=
 h.trans (G:=fun _=>False) (cR.of_below ((bj _ _).alloc (bk _) _)) (fun _ f=>f.elim)
theorem eW.nextPost (h:eW X w bs bb (.slice (some nb) next.length ki) vv g next)(hs:Src w1 bs)(hm:cR (fun i=>i=bs) w w1)
  (h2:cR (fun k=>w.heap.size<=k) (w1.setCell (nb,d) (.int .i64 z)) w2):aH X bs bb (.slice (some nb) next.length ki) vv w w2 (.slice (some nb) next.length ki) vv g (next.set d z):=by
 have hown:=h.ownN;have sy:bb<nb/\nb<w.heap.size:=by have:=hown.lt nb rfl;omega
 have hl:=h.lt;have hz1:(w1.setCell (nb,d) (.int .i64 z)).heap.size=w1.heap.size:=by simp [World.setCell]
 have hz:=hm.size;have k2:∀ k,k<w.heap.size->w2.heap[k]?=(w1.setCell (nb,d) (.int .i64 z)).heap[k]?:=fun k hk=>h2.block k TcC TcC;refine ⟨(h.setNext d z).keep ?_ ?_ ?_,?_,fun _ hk=>.inl hk,fun _ hk=>.inl hk⟩
 ·exact hs.keep fun i hi=>(k2 i TcC).trans (bw _ _ _ _ TcH)
 ·have:=h2.size;simp [World.setCell] at this ⊢;omega
 ·intro k h3 h4 _;have h4':k<w.heap.size:=by simpa [World.setCell] using h4
  rw [k2 k h4'];by_cases e:k=nb
  ·subst e;exact mD (p:=⟨k,d,none⟩) (hm.block k h4' TcC)
  rw [bw _ _ _ _ e,bw _ _ _ _ e];exact hm.block k h4' TcC
 exact ((hm.mono (fun _ hk=>.inl hk)).setCell (p:=⟨nb,d,none⟩) (.inl (.inr (.inr (.inl rfl)))) _).trans h2 (fun i hi=>.inr hi)
theorem eW.readPost' (h:eW X w bs bb nv vv g next)(hs:Src w' bs)(hm:cR (fun i=>i=bs) w w'):aH X bs bb nv vv w w' nv vv g next/\w'.heap[bb]?=w.heap[bb]? :=
 ⟨h.readPost hs hm,hm.block bb h.Gj (by have:=h.lt;omega)⟩
theorem eW.nextPost' (h:eW X w bs bb (.slice (some nb) next.length ki) vv g next)(hs:Src w1 bs)(hm:cR (fun i=>i=bs) w w1)
  (h2:cR (fun k=>w.heap.size<=k) (w1.setCell (nb,d) (.int .i64 z)) w2):aH X bs bb (.slice (some nb) next.length ki) vv w w2 (.slice (some nb) next.length ki) vv g (next.set d z)/\w2.heap[bb]?=w.heap[bb]?:=by
 have hbl:=h.Gj;have hlt:=h.lt;have sy:bb<nb:=by have:=h.ownN.lt nb rfl;omega
 have hz:=hm.size;refine ⟨h.nextPost hs hm h2,?_⟩;rw [h2.block bb (by simp [World.setCell];omega) TcC,bw _ _ _ _ (show bb≠nb by omega)];exact hm.block bb hbl TcC
def Tas (x0:ByteArray)(x1:Int):Tab #[.bool false,.string x0,.int .i64 x1]:=⟨⟩
def Taq :Tab #[.bool false,.string ⟨#[]⟩,.int .i64 0]:=⟨⟩
def FC (X:Nat->Prop)(bs bb:Nat)(nv vv:Value)(g:af)(next:List Int)(d:Nat)(D:az)(m n:Int)(w:World)(e:Ending)(w':World):Prop :=
 (e=.returned (.tuple #[.agg Taq,.bool false])/\aH X bs bb nv vv w w' nv vv g next/\w'.heap[bb]?=w.heap[bb]?) \/
 ∃ s:Int,m<=s/\s+n<=D.Gc/\e=.returned (.tuple #[.agg (Tas D.name s),.bool true])/\aH X bs bb nv vv w w' nv vv g (next.set d (s+n))/\w'.heap[bb]?=w.heap[bb]?
theorem Tbk {p:Prop}(h:p:=by
 rw [<- HW.o,<- HW2.o];have:=M1.size;exact (((((M1.drewN _).drewN _).alloc _).setCell (.inr TcH) _).setCell (.inr TcH) _).setCell (.inr TcH) _):p:=h
theorem Tbr {p:Prop}(h:p:=by
 rw [<- hW];exact block_setCell (cs:=#[_,_,_]) (i:=2) _ (block_setCell (cs:=#[_,_,_]) (i:=1) _ (block_setCell (cs:=#[_,_,_]) (i:=0) _ (b9 (W2.drewN _) _)))):p:=h
theorem TbD {p:Prop}(h:p:=by
 rw [<- hW,bw _ _ _ _ TcH,bw _ _ _ _ TcH,bw _ _ _ _ TcH,cj _ _ _ TcH,<- HW2.o];rfl):p:=h
theorem TeP {p:Prop}(h:p:=by simp [results,Tryz.results53,go_sem,p0,p1,p2]):p:=h
theorem qR (X:Nat->Prop)(bs bb:Nat)(nv vv:Value)(g:af)(next:List Int)(w:World)(h:eW X w bs bb nv vv g next)(d:Nat)(D:az)(m n:Int)(hd:g.Gb[d]?=some D)(hn:next[d]?=some m)
  (hm0:0<=m) (hm1:m<=1000000) (hn0:0<=n) (hn1:n<=1000000) :
  Calls prog 53 #[.pointer (some bb),.int .i64 d,.int .i64 n] w (FC X bs bb nv vv g next d D m n w):=by
 have HD:=aa hd;clear hd;have HN:=aa hn;clear hn;have hbl:=h.Gj;have hlt:=h.lt;have c0:w.cell? bb=some (.pointer (some bs)):=by
  obtain ⟨_,_,_,_,_,c,_⟩:=h.at HD.o HN.o;exact c
 go_enter func53,ntmps53
 go_wp2_with fail;refine (bY bs _ _ TcC TcC (h.below ((bj _ _).alloc (bk _) _)).src).mono ?_;rintro e w1 ⟨v,rfl,hv1,hv2,hs,oY⟩;have B1:=(h.below ((bj _ _).alloc (bk _) _)).read hs oY;have hR:w1.heap[w.heap.size]?=some (.cells Taq 53 (0,0)):=by
  rw [oY.block _ TcD TcC,b9]
 obtain ⟨r0,r1,r2⟩:=sv3 (cr hR);have r3:=sr hR;have hsz:w.heap.size<w1.heap.size:=aq hR;have HR:=aa hR;clear hR;have M1:cR (fun i=>i=bs) w w1:=((cR.of_below ((bj _ _).alloc (bk _) _)).trans oY (fun i hi=>.inl hi));obtain ⟨db,as3,ir,nb,ki,c0,c7,rfl,c10,cn,cf,NP,cd3,l1,l2,l3,l4,l5,l6,l7,l8,l9,l10,l11⟩:=B1.at HD.o HN.o;clear oY hs;have hv3:0<=v / 2:=by omega
 have hv4:v / 2<=1:=by omega
 by_cases k1:D.Gc<m+n
 ·have k2:D.Gc<m+v / 2+n:=by omega
  go_wp2;go_quiet (fail);go_wp2;go_quiet (fail);go_wp2;refine eC (v:=.tuple #[.agg Taq,.bool false]) (by simp [results,Tryz.results53,go_sem,r0,r1,r2]) rfl (.inl ⟨rfl,?_⟩);refine h.readPost' (B1.src.keep fun i hi=>?_) ((((M1.drewN _).setCell (p:=w.heap.size) (.inr (bk _)) _).setCell (p:=⟨w.heap.size,1,none⟩) (.inr (bk _)) _).setCell (p:=⟨w.heap.size,2,none⟩) (.inr (bk _)) _);rw [bw _ _ _ _ TcH,bw _ _ _ _ TcH,bw _ _ _ _ TcH];rfl
 have k2:¬ D.Gc<m+n:=k1;by_cases k3:D.Gc<m+v / 2+n
 ·go_wp2;go_quiet (fail);go_wp2;go_quiet (fail);go_wp2;generalize hW2:w1.drewN _=W2;have e2:∀ p,W2.cell? p=w1.cell? p:=fun p=>by rw [<- hW2];rfl
  have d7:=(e2 _).trans c7;have d10:=(e2 _).trans c10;have dn:=(e2 _).trans cn;have dd:=(e2 _).trans NP;have s2:W2.heap.size=w1.heap.size:=by rw [<- hW2];rfl
  have z1:db<W2.heap.size:=by omega
  have z2:nb<W2.heap.size:=by omega
  have z3:bb<W2.heap.size:=by omega
  have y7:=fun N cs t=>fu (N:=N) (cs:=cs) (t:=t) z3 d7;have y10:=fun N cs t=>fu (N:=N) (cs:=cs) (t:=t) z3 d10;have yn:=fun N cs t=>fu (N:=N) (cs:=cs) (t:=t) z2 dn;have yd:=fun N cs t=>fu (N:=N) (cs:=cs) (t:=t) z1 dd;have a0:∀ N (u v x:Value) (t:TypeId),((W2.drewN N).alloc (.cells #[u,v,x] t)).cell? W2.heap.size=some u:=fun N u v x t=>aD rfl rfl;have a1:∀ N (u v x:Value) (t:TypeId),((W2.drewN N).alloc (.cells #[u,v,x] t)).cell? (Tac W2.heap.size 1)=some v:=fun N u v x t=>aD rfl rfl;have a2:∀ N (u v x:Value) (t:TypeId),((W2.drewN N).alloc (.cells #[u,v,x] t)).cell? (Tac W2.heap.size 2)=some x:=fun N u v x t=>aD rfl rfl;have a3:∀ N (i:Nat) (cs:Array Value) (t:TypeId),((W2.drewN N).alloc (.cells cs t)).frozen? ⟨W2.heap.size,i,none⟩=false:=fun N i cs t=>Jl;have E2:=aa e2;clear e2;have S2:=aa s2;clear s2;have HW2:=aa hW2;clear hW2
  go_region
  clear y7 y10 yn yd;generalize hW:World.setCell (World.setCell (World.setCell (World.alloc (World.drewN W2 _) _) _ _) _ _) _ _=W6;have S:W2.heap.size=w1.heap.size:=S2.o;have hk6:∀ k,k<w1.heap.size->W6.heap[k]?=w1.heap[k]?:=fun k hk=>by
   exact TbD
  have hn6:W6.heap[W2.heap.size]?=some (.cells (Tas D.name m) 53 (0,0)):=by
   exact Tbr
  have q10:W6.cell? (Tac bb 10)=_:=(cd (w:=w1) (hk6 bb TcC)).trans c10;have qn:W6.cell? (nb,d)=_:=(cd (w:=w1) (hk6 nb TcC)).trans cn;have qf:W6.frozen? (nb,d)=_:=(rh (w:=w1) (hk6 nb TcC)).trans cf;obtain ⟨n0,n1,n2⟩:=sv3 (cr hn6);have R6:=(hk6 w.heap.size TcC).trans HR.o;obtain ⟨p0,p1,p2⟩:=sv3 (cr R6);have p3:=sr R6;have x1:nb≠W2.heap.size:=by omega
  have x2:nb≠w.heap.size:=by have:=h.ownN.lt nb rfl;omega
  have x3:w.heap.size≠W2.heap.size:=by omega
  have K6:=aa hk6;clear hk6;have N6:=aa hn6;clear hn6;have ZG:=aa R6;clear R6;have HW:=aa hW;clear hW;have HS:=aa S;clear S;clear a0 a1 a2 a3;go_wp2;refine eC (v:=.tuple #[.agg (Tas D.name m),.bool true]) TeP rfl (.inr ⟨m,TcC,TcC,rfl,?_⟩);have M6:cR (fun i=>i=bs) w W6:=by
   exact Tbk
  refine h.nextPost' (w1:=W6) (B1.src.keep fun i hi=>K6.o i TcC) M6 ?_;exact ((((cR.refl (fun k=>w.heap.size<=k) (W6.setCell (nb,d) (.int .i64 (m+n)))).setCell (p:=w.heap.size) (.inl (bk _)) _).setCell (p:=⟨w.heap.size,1,none⟩) (.inl (bk _)) _).setCell (p:=⟨w.heap.size,2,none⟩) (.inl (bk _)) _)
 go_wp2;go_quiet (fail);go_wp2;go_quiet (fail);go_wp2;generalize hW2:w1.drewN _=W2;have e2:∀ p,W2.cell? p=w1.cell? p:=fun p=>by rw [<- hW2];rfl
 have d7:=(e2 _).trans c7;have d10:=(e2 _).trans c10;have dn:=(e2 _).trans cn;have dd:=(e2 _).trans NP;have s2:W2.heap.size=w1.heap.size:=by rw [<- hW2];rfl
 have z1:db<W2.heap.size:=by omega
 have z2:nb<W2.heap.size:=by omega
 have z3:bb<W2.heap.size:=by omega
 have y7:=fun N cs t=>fu (N:=N) (cs:=cs) (t:=t) z3 d7;have y10:=fun N cs t=>fu (N:=N) (cs:=cs) (t:=t) z3 d10;have yn:=fun N cs t=>fu (N:=N) (cs:=cs) (t:=t) z2 dn;have yd:=fun N cs t=>fu (N:=N) (cs:=cs) (t:=t) z1 dd;have a0:∀ N (u v x:Value) (t:TypeId),((W2.drewN N).alloc (.cells #[u,v,x] t)).cell? W2.heap.size=some u:=fun N u v x t=>aD rfl rfl;have a1:∀ N (u v x:Value) (t:TypeId),((W2.drewN N).alloc (.cells #[u,v,x] t)).cell? (Tac W2.heap.size 1)=some v:=fun N u v x t=>aD rfl rfl;have a2:∀ N (u v x:Value) (t:TypeId),((W2.drewN N).alloc (.cells #[u,v,x] t)).cell? (Tac W2.heap.size 2)=some x:=fun N u v x t=>aD rfl rfl;have a3:∀ N (i:Nat) (cs:Array Value) (t:TypeId),((W2.drewN N).alloc (.cells cs t)).frozen? ⟨W2.heap.size,i,none⟩=false:=fun N i cs t=>Jl;have E2:=aa e2;clear e2;have S2:=aa s2;clear s2;have HW2:=aa hW2;clear hW2
 go_region
 clear y7 y10 yn yd;generalize hW:World.setCell (World.setCell (World.setCell (World.alloc (World.drewN W2 _) _) _ _) _ _) _ _=W6;have S:W2.heap.size=w1.heap.size:=S2.o;have hk6:∀ k,k<w1.heap.size->W6.heap[k]?=w1.heap[k]?:=fun k hk=>by
  exact TbD
 have hn6:W6.heap[W2.heap.size]?=some (.cells (Tas D.name (m+v / 2)) 53 (0,0)):=by
  exact Tbr
 have q10:W6.cell? (Tac bb 10)=_:=(cd (w:=w1) (hk6 bb TcC)).trans c10;have qn:W6.cell? (nb,d)=_:=(cd (w:=w1) (hk6 nb TcC)).trans cn;have qf:W6.frozen? (nb,d)=_:=(rh (w:=w1) (hk6 nb TcC)).trans cf;obtain ⟨n0,n1,n2⟩:=sv3 (cr hn6);have R6:=(hk6 w.heap.size TcC).trans HR.o;obtain ⟨p0,p1,p2⟩:=sv3 (cr R6);have p3:=sr R6;have x1:nb≠W2.heap.size:=by omega
 have x2:nb≠w.heap.size:=by have:=h.ownN.lt nb rfl;omega
 have x3:w.heap.size≠W2.heap.size:=by omega
 have K6:=aa hk6;clear hk6;have N6:=aa hn6;clear hn6;have ZG:=aa R6;clear R6;have HW:=aa hW;clear hW;have HS:=aa S;clear S;clear a0 a1 a2 a3;go_wp2;refine eC (v:=.tuple #[.agg (Tas D.name (m+v / 2)),.bool true]) TeP rfl (.inr ⟨m+v / 2,TcC,TcC,rfl,?_⟩);have M6:cR (fun i=>i=bs) w W6:=by
  exact Tbk
 rw [show m+v / 2+n=m+(v / 2+n) from by omega];refine h.nextPost' (w1:=W6) (B1.src.keep fun i hi=>K6.o i TcC) M6 ?_;exact ((((cR.refl (fun k=>w.heap.size<=k) (W6.setCell (nb,d) (.int .i64 (m+(v / 2+n))))).setCell (p:=w.heap.size) (.inl (bk _)) _).setCell (p:=⟨w.heap.size,1,none⟩) (.inl (bk _)) _).setCell (p:=⟨w.heap.size,2,none⟩) (.inl (bk _)) _)
end Go.Proofs.YtaagglbgohjldaaGreatDoor
