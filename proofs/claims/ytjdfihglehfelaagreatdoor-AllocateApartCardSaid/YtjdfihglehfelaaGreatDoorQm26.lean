/- Lemmas: PolD, PolE, PolAc. -/
import Derived.Test.YtjdfihglehfelaaGreatDoorQm25
set_option maxRecDepth 100000
set_option maxHeartbeats 32000000
set_option linter.all false
namespace Go.Proofs.YtjdfihglehfelaaGreatDoor
open Go.Proofs.Tryz
open Go.RowKit Go.Maps Go.Shelf
variable {w w':World}{B b k Bj Bd nc jc tc:Nat}{v:Value}{l x:List (Int × Int)}{xs:List (List (Int × Int))}{r:aY}{np jp tp:Option Addr}{nl jl:List ByteArray}{d:az}{ok:Nat->Prop}
theorem EX:(prog.info? 48).map (fun i=>(i.zero,i.size,i.bytes))=some (some (.slice none 0 0),1,24):=by kernel_rfl
theorem bM.ne {cs:Array Value}{t:TypeId}{z:Nat × Nat}(h:bM w B v l)(hb:w.heap[b]?=some (.cells cs t z))(ht:t≠62):v.ownBlock≠some b:=fun e=>by
 obtain ⟨-,h2⟩:=h;rcases h2 with ⟨rfl,_⟩ | ⟨g,cap,cur,rfl,_,hg,_⟩
 ·cases e
 ·have:g=b:=by simpa [Value.ownBlock] using e
  subst this;rw [hb] at hg;injection hg with hg
  injection hg with _ e2
  exact ht e2
theorem bM.blk (h:bM w B v l)(hk:∀ k,v.ownBlock=some k->w'.heap[k]?=w.heap[k]?):bM w' B v l:=aC h hk
theorem bM.slice (h:bM w B v l):∃ p n c,v=.slice p n c:=by
 obtain ⟨-,h2⟩:=h;rcases h2 with ⟨rfl,_⟩ | ⟨g,cap,cur,rfl,_⟩
 ·exact ⟨_,_,_,rfl⟩
 ·exact ⟨_,_,_,rfl⟩
def fH (w:World)(B:Nat)(v:Value)(xs:List (List (Int × Int))):Prop :=
 ∃ vs:List Value,w.ownsRow B 48 1 v xs.length vs/\vs.length=xs.length/\∀ (i:Nat) (u:Value) (x:List (Int × Int)),vs[i]?=some u->xs[i]?=some x->bM w B u x
theorem fH.nil (w:World)(B:Nat):fH w B (.slice none 0 0) []:=⟨[],gS w B _ 1,rfl,fun i u x h=>by cases h⟩
theorem fH.blk (h:fH w B v xs)(hk:∀ k,B<=k->k<w.heap.size->w'.heap[k]?=w.heap[k]?):fH w' B v xs:=by
 obtain ⟨vs,h1,h2,h3⟩:=h;refine ⟨vs,aC h1 fun k e=>hk k (fh h1 k e).1 (fh h1 k e).2,h2,fun i u x hu hx=>?_⟩;have ho:=h3 i u x hu hx;exact ho.blk fun k e=>hk k (fh ho k e).1 (fh ho k e).2
theorem fH.below (h:fH w B v xs)(hb:Below w.heap.size w w'):fH w' B v xs:=h.blk fun k _ hk=>hb.block k hk
theorem Tbf {p:Prop}(h:p:=by
 obtain ⟨vs,⟨h0,h1⟩,h2,h3⟩:=h
 refine ⟨vs,⟨h0,?_⟩,h2,fun i u x hu hx=>(h3 i u x hu hx).mono hB⟩
 rcases h1 with hn | ⟨g,cap,cur,hv,pC,r⟩
 ·exact .inl hn
 ·exact .inr ⟨g,cap,cur,hv,Tcd,r⟩):p:=h
theorem fH.mono {B':Nat}(h:fH w B v xs)(hB:B'<=B):fH w B' v xs:=by
 exact Tbf
theorem Tbg {p:Prop}(h:p:=by
 obtain ⟨vs,⟨h0,h1⟩,h2,h3⟩:=h
 rcases h1 with ⟨rfl,hn⟩ | ⟨g,cap,cur,rfl,pC,hg,vr,hcm,r⟩
 ·exact ⟨none,0,by rw [hn],Tcd,Tcd⟩
 ·exact ⟨_,cap,rfl,vr,Tcu⟩):p:=h
theorem fH.cap (h:fH w B v xs):∃ p c,v=.slice p xs.length c/\xs.length<=c/\c<=9223372036854775807:=by
 exact Tbg
theorem Ta1 {p:Prop}(h:p:=by
 obtain ⟨vs,⟨h0,h1⟩,h2,h3⟩:=h
 have hk:=(List.getElem?_eq_some_iff.1 hx).1
 rcases h1 with ⟨hv,hn⟩ | ⟨g,cap,cur,hv,pC,hg,vr,hcm,hcs,ht⟩
 ·omega
 ·injection hv with e1 _ e3
  subst e1;obtain ⟨u,hu⟩:=aj vs k Tcd;refine ⟨g,u,rfl,pC,(Array.getElem?_eq_some_iff.1 hg).1,?_,h3 k u x hu hx⟩;have hu':=hu;rw [<- ht,ri Tcd] at hu';rw [cell_of_row w g k cur _ (0,0) hg];simpa using hu'):p:=h
theorem fH.at {p:Option Addr}{n c:Nat}(h:fH w B (.slice p n c) xs)(hx:xs[k]?=some x) :
  ∃ b u,p=some ⟨b,0,none⟩/\B<=b/\b<w.heap.size/\w.cell? ⟨b,k,none⟩=some u/\bM w B u x:=by
 exact Ta1
theorem TbL {p:Prop}(h:p:=by
 rw [iz,eJ]
 match j,hy with
 | 0,hy =>
  obtain rfl:Value.slice pu nu cu=y:=by simpa using hy
  exact hc):p:=h
theorem Ta8 {p:Prop}(h:p:=by
 by_cases hi:i<xs.length
 ·rw [Fo Tcd] at hy hm
  exact CT y m (h3 i y m hy hm)
 ·rw [Cp Tcd] at hy hm
  rw [h2] at hy
  match hj:i - xs.length,hy,hm with
  | 0,hy,hm =>
   obtain rfl:Value.slice pu nu cu=y:=by simpa using hy
   obtain rfl:l=m:=by simpa using hm
   exact CT _ _ hu
  | j+1,hy,hm=>simp at hm):p:=h
theorem TbP {p:Prop}(h:p:=by
 ·have:g'=k:=by simpa [Value.ownBlock] using e
  subst this;exact YY _ _ _ _ hg' Tcg):p:=h
theorem iA {ops:Array Oper}{rest:List Oper}{o:Oper}{a:Act}{Q:Exit->Act->World->Prop}(hgd:o.guard=none)(s x:Operand)
  (ho:o.op=.call { callee:=.builtin .append,args:=#[s,x],argTypes:=#[42,42] })
  (B:Nat) (v:Value) (xs:List (List (Int × Int))) (u:Value) (l:List (Int × Int)) (hs:a.eval s=v) (hown:fH w B v xs) (hu:bM w B u l) (g c:Nat) (hx:a.eval x=.slice (some g) 1 c)
  (hc:w.cell? g=some u) (hl:xs.length<=100000000) (hB:B<=w.heap.size)
  (h:∀ v' w',fH w' B v' (xs++[l])->Below B w w'->(∀ (b:Nat) (cs:Array Value) (t:TypeId) (z:Nat × Nat),w.heap[b]?=some (.cells cs t z)->t≠48->w'.heap[b]?=w.heap[b]?)->wpList prog ops Q rest (a.put o.dst v') w'):wpList prog ops Q (o :: rest) a w:=by
 obtain ⟨i0,hi,hz0,hz1,hz2⟩:=ei EX;obtain ⟨vs,h1,h2,h3⟩:=hown;obtain ⟨pu,nu,cu,rfl⟩:=hu.slice;refine tE w hgd s x 42 ho B 48 i0 _ 1 24 underlying42 hi hz0 hz1 hz2 rfl Tcg v xs.length vs hs h1 ⟨g,0,none⟩ 1 c [.slice pu nu cu] hx rfl (fun j y hy=>?_) Tco Tcn Tcd hB (fun v' w' ho' hg _=>?_)
 ·exact TbL
 ·have YY:∀ (b:Nat) (cs:Array Value) (t:TypeId) (z:Nat × Nat),w.heap[b]?=some (.cells cs t z)->t≠48->w'.heap[b]?=w.heap[b]?:=fun b cs t z hb ht=>by
   refine hg.block b (aq hb) fun e=>?_;rcases h1.2 with ⟨rfl,_⟩ | ⟨g',cap,cur,rfl,_,hg',_⟩
   ·cases e
   ·have:g'=b:=by simpa [Value.ownBlock] using e.symm
    subst this;rw [hb] at hg';injection hg' with hg'
    injection hg' with _ e2
    exact ht e2
  have CT:∀ (y:Value) (m:List (Int × Int)),bM w B y m->bM w' B y m:=fun y m hy=>by
   refine hy.blk fun k e=>?_;rcases hy.2 with ⟨rfl,_⟩ | ⟨g',cap,cur,rfl,_,hg',_⟩
   ·cases e
   exact TbP
  refine h v' w' ⟨vs++[.slice pu nu cu],by rw [cD];exact ho',by rw [cD,cD,h2];rfl,fun i y m hy hm=>?_⟩ ((bj B w).grown hg hB (fun k hk=>(fh h1 k hk).1)) YY
  exact Ta8
structure kF (w:World)(Bj Bd:Nat)(r:aY)(np jp:Option Addr)(nc jc:Nat)(nl jl:List ByteArray)(d:az)(tp:Option Addr)(tc:Nat):Prop where
 at':BC w Bj Bd r np jp nc jc nl jl d tp tc
 n:ck aF 1 (fun _=>True) w [.slice np nl.length nc] nl
 j:ck aF 1 (fun _=>True) w [.slice jp jl.length jc] jl
 t:ck aF 1 (fun _=>True) w [.slice tp d.tags.length tc] d.tags
theorem gI {α:Type}{V:jx α}(hV:Moves V){sz:Nat}{vs:List Value}{l:List α}(h:ck V sz (fun _=>True) w vs l)(hb:Below w.heap.size w w'):ck V sz (fun _=>True) w' vs l :=
 (ck.moves hV).mv ⟨hb.size,fun b h1 _=>⟨trivial,hb.block b h1⟩⟩ h
theorem kF.below (h:kF w Bj Bd r np jp nc jc nl jl d tp tc)(hb:Below w.heap.size w w'):kF w' Bj Bd r np jp nc jc nl jl d tp tc :=
 ⟨⟨(hb.block _ (aq h.at'.j)).trans h.at'.j,(hb.block _ (aq h.at'.d)).trans h.at'.d⟩,gI aF.moves h.n hb,gI aF.moves h.j hb,gI aF.moves h.t hb⟩
def lH (near tags:List ByteArray)(r:aY)(d:az):Nat->Bool
 | 0=>jV d
 | 1=>jG r.tag d
 | 2=>nN near r.Gg d
 | _=>vE near tags r.Gg d
def Ak:Nat->FuncId
 | 0=>51
 | 1=>52
 | 2=>53
 | _=>54
theorem nI (h:kF w Bj Bd r np jp nc jc nl jl d tp tc)(zr:nl.length<=1000000)(vt:jl.length<=1000000)(nt:d.tags.length<=1000000)(k:Nat) :
  Calls prog (Ak k) #[.agg (Tan r nl.length np nc jl.length jp jc),.agg (Tai d tp tc)] w (iI (lH nl jl r d k) w):=by
 match k with
 | 0=>exact AX r np jp nc jc nl jl d tp tc w
 | 1=>exact zl r np jp nc jc nl jl d tp tc w h.t nt
 | 2=>exact yM r np jp nc jc nl jl d tp tc w h.n zr
 | _+3=>exact ym r np jp nc jc nl jl d tp tc w h.n zr h.t nt h.j vt
theorem TbD {p:Prop}(h:p:=by
 go_enter func56,ntmps56
 go_wp2_with (refine HC.o.mono ?_;rintro e w5 ⟨rfl,hb5⟩)
 go_ret
 exact ⟨rfl,hb5⟩):p:=h
theorem Dz (h:kF w Bj Bd r np jp nc jc nl jl d tp tc)(zr:nl.length<=1000000)(vt:jl.length<=1000000)(nt:d.tags.length<=1000000) :
  Calls prog 56 #[.func (.func 51) #[] #[],.pointer (some Bj),.pointer (some Bd)] w (iI (!jV d) w):=by
 have HC:Hid (Calls prog 51 #[.agg (Tan r nl.length np nc jl.length jp jc),.agg (Tai d tp tc)] w (iI (jV d) w)):=aa (nI h zr vt nt 0);have dL:=h.at'.dc;obtain ⟨d0,d1,d2,d3,d4,d5,d6⟩:=se dL;have jL:=h.at'.jc;obtain ⟨j0,j1,j2,j3,j4,j5,j6,j7,j8⟩:=xr jL;clear dL jL h;generalize jV d=c at *;exact TbD
theorem Cv (h:kF w Bj Bd r np jp nc jc nl jl d tp tc)(zr:nl.length<=1000000)(vt:jl.length<=1000000)(nt:d.tags.length<=1000000) :
  Calls prog 56 #[.func (.func 52) #[] #[],.pointer (some Bj),.pointer (some Bd)] w (iI (!jG r.tag d) w):=by
 have HC:Hid (Calls prog 52 #[.agg (Tan r nl.length np nc jl.length jp jc),.agg (Tai d tp tc)] w (iI (jG r.tag d) w)):=aa (nI h zr vt nt 1);have dL:=h.at'.dc;obtain ⟨d0,d1,d2,d3,d4,d5,d6⟩:=se dL;have jL:=h.at'.jc;obtain ⟨j0,j1,j2,j3,j4,j5,j6,j7,j8⟩:=xr jL;clear dL jL h;generalize jG r.tag d=c at *;exact TbD
theorem CB (h:kF w Bj Bd r np jp nc jc nl jl d tp tc)(zr:nl.length<=1000000)(vt:jl.length<=1000000)(nt:d.tags.length<=1000000) :
  Calls prog 56 #[.func (.func 53) #[] #[],.pointer (some Bj),.pointer (some Bd)] w (iI (!nN nl r.Gg d) w):=by
 have HC:Hid (Calls prog 53 #[.agg (Tan r nl.length np nc jl.length jp jc),.agg (Tai d tp tc)] w (iI (nN nl r.Gg d) w)):=aa (nI h zr vt nt 2);have dL:=h.at'.dc;obtain ⟨d0,d1,d2,d3,d4,d5,d6⟩:=se dL;have jL:=h.at'.jc;obtain ⟨j0,j1,j2,j3,j4,j5,j6,j7,j8⟩:=xr jL;clear dL jL h;generalize nN nl r.Gg d=c at *;exact TbD
theorem Dm (h:kF w Bj Bd r np jp nc jc nl jl d tp tc)(zr:nl.length<=1000000)(vt:jl.length<=1000000)(nt:d.tags.length<=1000000) :
  Calls prog 56 #[.func (.func 54) #[] #[],.pointer (some Bj),.pointer (some Bd)] w (iI (!vE nl jl r.Gg d) w):=by
 have HC:Hid (Calls prog 54 #[.agg (Tan r nl.length np nc jl.length jp jc),.agg (Tai d tp tc)] w (iI (vE nl jl r.Gg d) w)):=aa (nI h zr vt nt 3);have dL:=h.at'.dc;obtain ⟨d0,d1,d2,d3,d4,d5,d6⟩:=se dL;have jL:=h.at'.jc;obtain ⟨j0,j1,j2,j3,j4,j5,j6,j7,j8⟩:=xr jL;clear dL jL h;generalize vE nl jl r.Gg d=c at *;exact TbD
theorem EF (h:kF w Bj Bd r np jp nc jc nl jl d tp tc)(zr:nl.length<=1000000)(vt:jl.length<=1000000)(nt:d.tags.length<=1000000)(k:Nat) :
  Calls prog 56 #[.func (.func (Ak k)) #[] #[],.pointer (some Bj),.pointer (some Bd)] w (iI (!lH nl jl r d k) w):=by
 match k with
 | 0=>exact Dz h zr vt nt
 | 1=>exact Cv h zr vt nt
 | 2=>exact CB h zr vt nt
 | _+3=>exact Dm h zr vt nt
def qd (w:World)(b:Nat):Prop:=w.heap[b]?=some (.cells #[.func (.func 51) #[] #[],.func (.func 52) #[] #[],.func (.func 53) #[] #[],.func (.func 54) #[] #[]] 103 (0,0))
theorem C9 (h:qd w b)(k:Nat)(hk:k<4):w.cell? (b,k)=some (.func (.func (Ak k)) #[] #[]):=by
 have h:w.heap[b]?=_:=h;rcases (show k=0\/k=1\/k=2\/k=3 by omega) with rfl | rfl | rfl | rfl <;> (simp only [World.cell?,h];rfl)
theorem sH (h:kF w Bj Bd r np jp nc jc nl jl d tp tc)(hcs:qd w b)(zr:nl.length<=1000000)(vt:jl.length<=1000000)(nt:d.tags.length<=1000000) :
  Calls prog 106 #[.slice (some b) 4 4,.func (.func 56) #[] #[.pointer (some Bj),.pointer (some Bd)]] w
   fun e w'=>(∃ q:Int,e=.returned (.int .i64 q)/\decide (0<=q)=!iD nl jl r d)/\Below w.heap.size w w':=by
 have HH:=aa h;clear h;have ME:=aa hcs;clear hcs;have HU:Hid (iD nl jl r d=(lH nl jl r d 0&&(lH nl jl r d 1&&(lH nl jl r d 2&&lH nl jl r d 3)))):=aa rfl;go_enter func106,ntmps106;go_wp2
 go_loopw [8,5] (fun i _ wr=>∃ k:Nat,k<=4/\i=.int .i64 k/\Below w.heap.size w wr/\∀ j,j<k->lH nl jl r d j=true) (fun i _ _=>4 - (intOf i).toNat)
 case atStart=>exact ⟨0,cg _,rfl,bj _ _,fun j hj=>absurd hj Tcd⟩
 case round =>
  obtain ⟨k,hk,rfl,hB,hall⟩:=hrel;have cE:=aa hall;clear hall;have HB:=aa hB;clear hB
  by_cases hlt:k<4
  ·have q0:=(HB.o.cell (p:=⟨b,k,none⟩) (aq ME.o)).trans (C9 ME.o k hlt)
   have HA:=aa (EF (HH.o.below HB.o) zr vt nt k)
   have HFA:Hid (lH nl jl r d k=false->iD nl jl r d=false):=aa fun hf=>by
    rw [HU.o];rcases (show k=0\/k=1\/k=2\/k=3 by omega) with rfl | rfl | rfl | rfl <;> rw [hf] <;> simp
   generalize Ak k=F at *;cases hc:lH nl jl r d k with
   | false =>
    rw [hc] at HA;have HR:=aa (HFA.o hc);clear hc
    go_wp2_with (refine HA.o.mono ?_;rintro e w5 ⟨rfl,hb5⟩)
    go_ret;exact ⟨⟨k,rfl,by rw [HR.o];simp⟩,HB.o.trans (hb5.mono HB.o.size)⟩
   | true =>
    rw [hc] at HA
    have HR:Hid (∀ j,j<k+1->lH nl jl r d j=true):=aa fun j hj=>by
     by_cases e:j=k
     ·rw [e];exact hc
     ·exact cE.o j Tcd
    clear hc
    go_wp2_with (refine HA.o.mono ?_;rintro e w5 ⟨rfl,hb5⟩)
    have eK:=aa (HB.o.trans (hb5.mono HB.o.size));go_roundw
    case rel=>exact ⟨k+1,Tcd,Tch,eK.o,HR.o⟩
    case measure=>simp [intOf];omega
  ·obtain rfl:k=4:=by omega
   have HR:Hid (iD nl jl r d=true):=aa (by rw [HU.o,cE.o 0 Tcd,cE.o 1 Tcd,cE.o 2 Tcd,cE.o 3 Tcd];rfl);go_wp2;go_ret;exact ⟨⟨-1,rfl,Tcl⟩,HB.o⟩
theorem oD (h:kF w Bj Bd r np jp nc jc nl jl d tp tc)(hcs:qd w b)(zr:nl.length<=1000000)(vt:jl.length<=1000000)(nt:d.tags.length<=1000000) :
  Calls prog 55 #[.slice (some b) 4 4,.func (.func 56) #[] #[.pointer (some Bj),.pointer (some Bd)]] w (iI (!iD nl jl r d) w):=by
 go_enter func55,ntmps55
 go_wp2_with fail
 refine (sH h hcs zr vt nt).mono ?_;rintro e w2 ⟨⟨q,rfl,hr2⟩,hb2⟩;exact Tca
theorem AP (nm:ByteArray)(e:ByteArray × Int){r:Int × Int}(h:x[k]?=some r):su nm e (x.take (k+1))=su nm e (x.take k)++if e.1=nm/\r.1<=e.2/\e.2<r.1+r.2 then [(e.2,r.1+r.2 - e.2)] else []:=by
 rw [take_snoc' x k r h];unfold su;rw [E0]
 congr 1
 by_cases c:e.1=nm/\r.1<=e.2/\e.2<r.1+r.2
 ·rw [aw c]
  simp [c]
 ·rw [bh c]
  rw [List.filterMap_cons,bh c];rfl
theorem BD (nm:ByteArray)(x:List (Int × Int)){E:List (ByteArray × Int)}{e:ByteArray × Int}(h:E[k]?=some e):mQ (E.take (k+1)) nm x=mQ (E.take k) nm x++su nm e x:=by
 rw [take_snoc' E k e h];simp [mQ]
theorem Tbx {p:Prop}(h:p:=by
 go_wp2
 go_roundw
 case rel=>exact ⟨j+1,Tcd,Tch,by rw [Kz.o];exact HOW4.o,Kb.o,eI.o⟩
 case measure=>simp [intOf];omega):p:=h
theorem yI (g:af)(a:bN)(vol dn:ByteArray)(x:List (Int × Int))(v3:Value)(w:World)(hr:ck aN 6 ok w [.slice a.vp g.F9.length a.vc] g.F9)(hz:JT g)(ht:qx g.F9)(CH:∀ v∈g.F9,∀ s∈v.Gf,fP s->∀ a∈s.Ga,0<=a.start/\a.start<=1000000)
  (hx:xo w v3 x) (qu:∀ p∈x,0<=p.1/\1<=p.2/\p.1+p.2<=1073741824) (vh:x.length<=30000) (Vh:(jE g vol).length<=10) :
  Calls prog 58 #[.agg (Tae g a),.string vol,.string dn,v3] w (zz w (Mem (mQ (jE g vol) dn x)) 300000):=by
 have HG:=aa hr;clear hr;have HX0:=aa hx;obtain ⟨p3,c3,rfl,ac4,ac5,hx3⟩:=hx;have HX:=aa hx3;clear hx3;have Qp:=aa qu;clear qu;have Kt:=aa (ae w (.cells (Tae g a) 31));have CN:=aa (b9 w (.cells (Tae g a) 31))
 have gL:=cr CN.o
 go_enter func58,ntmps58
 go_upto_region 2 with (fail)
 generalize hW1:World.alloc w _=W1 at *;obtain ⟨g0,g1,g2,g3,g4,g5,g6,g7,g8⟩:=xr gL;clear gL hW1;have Sv:=aa (Cr (ok:=ok) g a vol W1 ((ck.moves aN.moves).mv (Mv.of Kt.o) HG.o) hz ht CH);clear hz ht CH
 go_wp2_with fail
 clear g0 g1 g2 g3 g4 g5 g6 g7 g8;refine Sv.o.mono ?_;clear Sv;rintro e w2 ⟨ev,rfl,how,hb2⟩;have cm:=aa (Kt.o.trans (hb2.mono Kt.o.size));have kf:ck aQ 3 (fun _=>True) w2 [ev] ((jE g vol).map fun x=>⟨false,x.1,x.2⟩):=bF.rd aQ.moves how Tcg (fun _ _ _=>trivial) (fun _ _=>trivial);clear how hb2;generalize hE:jE g vol=E at *;have PH:=aa hE;clear hE;obtain ⟨ep,ec,rfl,WH,ac6⟩:=kf.cap;have B2:=aa kf;clear kf;rw [fW] at WH ⊢;have Tz:=cm.o.size
 have HX2:Hid (0<x.length->∃ b off,p3=some ⟨b,off,none⟩/\b<w2.heap.size/\ru w2 b off x):=aa fun h=>by
  obtain ⟨b,off,e,hb,hc⟩:=HX.o h;exact ⟨b,off,e,Tcd,hc.below cm.o hb⟩
 have hxx:x.length<=9223372036854775807:=by omega
 go_upto_region 3 with (fail)
 go_loopw [10,19] (fun lv i wr=>∃ k:Nat,k<=E.length/\i=.int .i64 k/\bM wr w2.heap.size lv (mQ (E.take k) dn x)/\Below w2.heap.size w2 wr) (fun _ i _=>E.length - (intOf i).toNat)
 case atStart=>exact ⟨0,cg _,rfl,bM.nil _ _,bj _ _⟩
 case round =>
  obtain ⟨k,hk,rfl,hown,hB⟩:=hrel;have HOW:=aa hown;clear hown;have HB:=aa hB;clear hB
  have hbl:(mQ (E.take k) dn x).length<=300000:=by
   have h1:=Dj (E.take k) dn x;have h2:(E.take k).length*x.length<=10*30000:=ue (by rw [ey];omega) vh;omega
  by_cases hlt:k<E.length
  ·obtain ⟨e,he⟩:=aj E k hlt
   obtain ⟨b,off,us,rfl,gR,cX,ez,eE,hcv⟩:=B2.o.elem (k:=k) (x:=(⟨false,e.1,e.2⟩:aR)) (by rw [rI,he];rfl);obtain rfl:us=_:=eE;have cT:wr.heap[b]?=w2.heap[b]?:=HB.o.block b cX;obtain ⟨q0,q1,q2⟩:=Mn cT hcv;dsimp only at q1 q2;have Ml:=aa (BD dn x he);have mA:=HB.o.size;clear he hcv ez cT;have hA:=ae wr (.cells (Tau e.1 e.2) 60);have yb:=aa (b9 wr (.cells (Tau e.1 e.2) 60));have cJ:=aa (HB.o.trans (hA.mono mA));have HOW3:=aa (HOW.o.below hA);clear hA
   go_upto_region 6 with (fail)
   clear q0 q1 q2;generalize hW3:World.alloc wr _=W3 at *;generalize NU:wr.heap.size=Ba at *;clear hW3 HB HOW;generalize hL0:mQ (E.take k) dn x=L0 at *;have QX:=aa hL0;clear hL0
   go_loopw [10,25] (fun lv i wi=>∃ j:Nat,j<=x.length/\i=.int .i64 j/\bM wi w2.heap.size lv (L0++su dn e (x.take j))/\wi.heap[Ba]?=some (.cells (Tau e.1 e.2) 60 (0,0))/\Below w2.heap.size w2 wi) (fun _ i _=>x.length - (intOf i).toNat)
   case atStart=>exact ⟨0,cg _,rfl,by rw [iv,show su dn e []=[] from rfl,eM];exact HOW3.o,yb.o,cJ.o⟩
   case round =>
    clear yb cJ HOW3;obtain ⟨j,hj,rfl,hown,Sr,hB⟩:=hrel;have HOW:=aa hown;clear hown;have HB:=aa hB;clear hB;have yb:=aa Sr;clear Sr;have Sw:=HB.o.size;have Qu:=wT dn e (x.take j);rw [ey] at Qu
    by_cases hlt2:j<x.length
    ·obtain ⟨r,hr⟩:=aj x j hlt2
     obtain ⟨b4,off4,hp3,hb4,hc4⟩:=HX2.o Tcd;subst hp3;have hc:=hc4.below HB.o hb4 j r hr;have x0:=hc.1;have x1:=hc.2;have Kz:=aa (AP dn e hr);have sB:=Qp.o r (ct hr);obtain ⟨hr1,hr2,hr3⟩:=sB;clear hc hc4 hr;have WI:=aq yb.o;have hA:=ae wr (.cells #[.int .i64 r.1,.int .i64 r.2] 62);have YZ:=aa (b9 wr (.cells #[.int .i64 r.1,.int .i64 r.2] 62));have eI:=aa (HB.o.trans (hA.mono Sw));have HOW4:=aa (HOW.o.below hA);have Kb:=aa ((hA.block _ WI).trans yb.o);clear hA
     go_upto_region 8 with (fail)
     clear x0 x1;generalize hW5:World.alloc wr _=W5 at *;generalize Rz:wr.heap.size=Br at *;clear hW5 HB HOW yb;have a1:=cr Kb.o 1 _ rfl;have a2:=cr Kb.o 2 _ rfl;have r0:=cr YZ.o 0 _ rfl;have r1:=cr YZ.o 1 _ rfl
     have hwr:IntKind.i64.wrap (r.1+r.2)=r.1+r.2:=dy _ Tcd
     by_cases hen:e.1=dn
     ·have hb1:(e.1.toList == dn.toList)=true:=by rw [hen];simp
      have Sv:=aa hen;clear hen
      by_cases h1:r.1<=e.2
      ·by_cases h2:e.2<r.1+r.2
       ·rw [aw ⟨Sv.o,h1,h2⟩] at Kz
        have TL:IntKind.i64.wrap (r.1+r.2 - e.2)=r.1+r.2 - e.2:=dy _ Tcd;have WJ:=eI.o.size
        go_wp2_with (at_builtin;refine jg rfl _ _ rfl w2.heap.size _ (L0++su dn e (x.take j)) (e.2,r.1+r.2 - e.2) rfl ?c1 W5.heap.size 1 rfl ?c2 ?c3 ?c4 ?c5 ?_)
        case c1=>exact HOW4.o.below (ae _ _)
        all_goals first | (case c2=>exact aD rfl rfl) | (case c3=>exact aD rfl rfl) | (case c4=>rw [cD];omega) | (case c5=>simp;omega) | skip
        intro v' w6 hown1 hb1' hg1;have hA:=ae W5 (.cells #[.int .i64 e.2,.int .i64 (r.1+r.2 - e.2)] 62);have Nw:=(hA.block _ (aq Kb.o)).trans Kb.o;have qs:=aa ((eI.o.trans (hA.mono WJ)).trans hb1');have WK:=aa ((hg1.block Ba (aq Nw) (fun e=>(HOW4.o.below hA).ne Nw Tcg e.symm)).trans Nw);have HOW6:=aa hown1;clear hA Nw hb1' hg1 hown1 a1 a2 r0 r1;go_wp2;go_roundw
        case rel=>exact ⟨j+1,Tcd,Tch,by rw [Kz.o];first | exact HOW6.o | (rw [<- cV];exact HOW6.o),WK.o,qs.o⟩
        case measure=>simp [intOf];omega
       ·rw [bh (fun c=>h2 c.2.2),eM] at Kz
        exact Tbx
      ·rw [bh (fun c=>h1 c.2.1),eM] at Kz
       exact Tbx
     ·have hb1:=jI hen
      rw [bh (fun c=>hen c.1),eM] at Kz;have Sv:=aa hen;clear hen;exact Tbx
    ·obtain rfl:j=x.length:=by omega
     rw [cI] at HOW;have WL:Hid (bM wr w2.heap.size _ (mQ (E.take (k+1)) dn x)):=aa (by rw [Ml.o];exact HOW.o);clear HOW;go_wp2;go_roundw
     case rel=>exact ⟨k+1,Tcd,Tch,WL.o,HB.o⟩
     case measure=>simp [intOf];omega
  ·obtain rfl:k=E.length:=by omega
   rw [cI] at HOW hbl;have HV:=aa (xS (ends:=E) (nm:=dn) Qp.o);have HN:=aa (tJ (mQ E dn x) _ wr HOW.o.rd HV.o Tcd);have fy:Hid (Below w.heap.size w wr):=aa (cm.o.trans (HB.o.mono Tz));clear HOW
   go_wp2_with fail
   refine HN.o.mono ?_;rintro e' w7 ⟨v7,x7,rfl,ho7,hn7,hl7,hb7⟩;have HO7:=aa ho7;clear ho7;have Sx:=aa hn7;clear hn7;have wk:=aa (fy.o.trans (hb7.mono fy.o.size));have RB:=aa fy.o.size;clear hb7;go_wp2;go_ret2;exact ⟨v7,x7,rfl,HO7.o.mono RB.o,Sx.o,Tcd,wk.o⟩
theorem TcR {p:Prop}(h:p:=by rw [HT.o,HQ.o];rfl):p:=h
theorem Tdn {p:Prop}(h:p:=by simp [eu,Sz]):p:=h
theorem TcQ {p:Prop}(h:p:=by rw [LU.o,Ti.o];rfl):p:=h
theorem Tc3 {p:Prop}(h:p:=by rw [yi.o];simp):p:=h
theorem yQ (g:af)(a:bN)(r:aY)(w:World)(hg:dN ok w g a)(hi:NL g)(hr:dK r)(hS:AW w) :
  Calls prog 47 #[.agg (Tae g a),.agg (Taj r)] w (FY (kP g r) w):=by
 have HG:=aa hg;clear hg;have HI:=aa hi;clear hi;have MD:=aa hS;clear hS;obtain ⟨hl,hs,he,hp,ht,hn,hq⟩:=hr;have hA1:=ae w (.cells (Tae g a) 31);have hA2:=ae (w.alloc (.cells (Tae g a) 31)) (.cells (Taj r) 35);have hN1:=b9 w (.cells (Tae g a) 31);have hN2:=b9 (w.alloc (.cells (Tae g a) 31)) (.cells (Taj r) 35);rw [cW] at hN2;have Fm:Hid (jF ((w.alloc (.cells (Tae g a) 31)).alloc (.cells (Taj r) 35)) w.heap.size (w.heap.size+1) g a r):=aa ⟨(hA2.block _ (aq hN1)).trans hN1,hN2⟩;have cU:=aa (hA1.trans (hA2.mono hA1.size));clear hA1 hA2 hN1 hN2;go_enter func47,ntmps47
 go_upto_region 1 with (fail)
 generalize hW1:World.alloc (World.alloc w _) _=W1 at *;generalize Ms:w.heap.size=Bg at *;generalize Rz:Bg+1=Br at *;clear hW1;have pd:Hid (Below w.heap.size w W1):=aa (by rw [Ms];exact cU.o);clear cU;have gL:=Fm.o.gc;obtain ⟨g0,g1,g2,g3,g4,g5,g6,g7,g8⟩:=xr gL;clear gL
 go_wp2_with fail
 clear g0 g1 g2 g3 g4 g5 g6 g7 g8;refine (Bz (ok:=ok) g a W1 (HG.o.mv (Mv.of pd.o)) HI.o (MD.o.below pd.o)).mono ?_;rintro e w2 ⟨rfl,hb2⟩;have cm:=aa (pd.o.trans (hb2.mono pd.o.size));have TG:=aa (Fm.o.below hb2);clear hb2 pd Fm;have LU:Hid (kP g r=if (pM g).2=0 then yZ g r else (pM g).2):=aa rfl;generalize hm:pM g=m at *;obtain ⟨p1,x1⟩:=m;have HM:=aa hm;clear hm
 by_cases hx:x1=0
 ·have qu:(x1 != 0)=false:=by simpa using hx
  have HX:=aa hx;clear hx
  go_upto_region 4 with (fail)
  clear qu;rw [aw HX.o] at LU;have gL:=TG.o.gc;obtain ⟨g0,g1,g2,g3,g4,g5,g6,g7,g8⟩:=xr gL;clear gL;have rL:=TG.o.rc;have r5:=rL 5 _ rfl;clear rL;have KQ:=aa (fA (ok:=fun b=>ok b/\b<w.heap.size) g a r.near w2 ((ck.moves aN.moves).mv ⟨cm.o.size,fun b hb ho=>⟨⟨ho,hb⟩,cm.o.block b hb⟩⟩ (dN.F9 HG.o)) HI.o.sz.vl HI.o.sz.vz)
  go_wp2_with fail
  clear g0 g1 g2 g3 g4 g5 g6 g7 g8 r5;refine KQ.o.mono ?_;clear KQ;rintro e w3 ⟨u,rfl,sA,hb3⟩;have cJ:=aa (cm.o.trans (hb3.mono cm.o.size));have C6:=aa (TG.o.below hb3);have K7:Hid (xM g r=if r.near.toList.isEmpty then !OC r else (aM g.F9 r.near).isSome):=aa rfl;generalize (aM g.F9 r.near).isSome=YW at *;obtain ⟨tv,sv,rfl,ew,fL⟩:=sA;obtain ⟨tp,tc,rfl,_,_⟩:=ew.cap;obtain ⟨sp,sc,rfl,hsc1,hsc2⟩:=fL.cap;clear ew fL hb3 cm TG;generalize (aM g.F9 r.near).getD eY=v at *;have hA:=ae w3 (.cells (Tah v tp tc sp sc) 55);have eI:=aa (cJ.o.trans (hA.mono cJ.o.size));have Sy:=aa (C6.o.below hA);clear hA cJ C6
  go_upto_region 5 with (fail)
  generalize hW4:World.alloc w3 _=W4 at *;clear hW4;have rL:=Sy.o.rc;obtain ⟨r0,r1,r2,r3,r4,r5,r6⟩:=se rL;clear rL
  go_cut [9] (fun v wc=>v=.bool (OC r)/\wc=W4)
  case first =>
   cases h2:(r.Gg == 2) with
   | true =>
    go_wp2;go_meet;exact ⟨by simp [OC,h2],rfl⟩
   | false =>
    cases h3:(r.Gg == 3) with
    | true =>
     go_wp2;go_meet;exact ⟨by simp [OC,h3],rfl⟩
    | false =>
     go_wp2;go_meet;exact ⟨by simp [OC,h2,h3],rfl⟩
  case rest =>
   obtain ⟨rfl,rfl⟩:=hcut;generalize OC r=c at *;have HW:=aa uT;have Ti:Hid (yZ g r=if Dr r=false then 1 else if Ek r.Gg 5=false then 17 else if xM g r=false then 12 else if (eu r.tag&&eu r.sep)=false then 2 else 0):=aa rfl
   go_upto_region 7 with (fail)
   go_cut [34] (fun v wx=>v=.bool (!Dr r)/\wx=wc)
   case first =>
    have hc1:=uT r.Gi 6 wc;have hc2:=uT r.Gh 6 wc;have hc3:=uT r.Gc 4096 wc;have yi:Hid (Dr r=(Ek r.Gi 6&&Ek r.Gh 6&&decide (r.Gi*r.Gh<=6)&&Ek r.Gc 4096)):=aa rfl;cases h1:Ek r.Gi 6 with
    | false =>
     rw [h1] at hc1 yi;have H1:=aa h1;clear h1
     go_wp2_with (first | ((with_reducible refine hc1.mono ?_);rintro e w5 ⟨rfl,rfl⟩) | ((with_reducible refine hc2.mono ?_);rintro e w5 ⟨rfl,rfl⟩) | ((with_reducible refine hc3.mono ?_);rintro e w5 ⟨rfl,rfl⟩))
     go_meet;exact ⟨Tc3,rfl⟩
    | true =>
     have hb1:1<=r.Gi/\r.Gi<=6:=by simpa [Ek] using h1
     rw [h1] at hc1 yi;have H1:=aa h1;clear h1;cases h2:Ek r.Gh 6 with
     | false =>
      rw [h2] at hc2 yi;have H2:=aa h2;clear h2
      go_wp2_with (first | ((with_reducible refine hc1.mono ?_);rintro e w5 ⟨rfl,rfl⟩) | ((with_reducible refine hc2.mono ?_);rintro e w5 ⟨rfl,rfl⟩) | ((with_reducible refine hc3.mono ?_);rintro e w5 ⟨rfl,rfl⟩))
      go_meet;exact ⟨Tc3,rfl⟩
     | true =>
      have hb2:1<=r.Gh/\r.Gh<=6:=by simpa [Ek] using h2
      rw [h2] at hc2 yi;have H2:=aa h2;clear h2;have hm1:0<=r.Gi*r.Gh:=oA Tcd Tcd;have hm2:r.Gi*r.Gh<=6*6:=tW hb1.2 hb2.2 Tcd Tcd;have hwr:IntKind.i64.wrap (r.Gi*r.Gh)=r.Gi*r.Gh:=dy _ Tcd;have Nf:=aa hm1;clear hm1;have xi:=aa hm2;clear hm2
      by_cases h3:r.Gi*r.Gh<=6
      ·have hp:decide (6<r.Gi*r.Gh)=false:=cN Tcd
       rw [eA h3] at yi;have H3:=aa h3;clear h3;cases h4:Ek r.Gc 4096 with
       | false =>
        rw [h4] at hc3 yi;have H4:=aa h4;clear h4
        go_wp2_with (first | ((with_reducible refine hc1.mono ?_);rintro e w5 ⟨rfl,rfl⟩) | ((with_reducible refine hc2.mono ?_);rintro e w5 ⟨rfl,rfl⟩) | ((with_reducible refine hc3.mono ?_);rintro e w5 ⟨rfl,rfl⟩))
        go_meet;exact ⟨Tc3,rfl⟩
       | true =>
        rw [h4] at hc3 yi;have H4:=aa h4;clear h4
        go_wp2_with (first | ((with_reducible refine hc1.mono ?_);rintro e w5 ⟨rfl,rfl⟩) | ((with_reducible refine hc2.mono ?_);rintro e w5 ⟨rfl,rfl⟩) | ((with_reducible refine hc3.mono ?_);rintro e w5 ⟨rfl,rfl⟩))
        go_meet;exact ⟨Tc3,rfl⟩
      ·have hp:decide (6<r.Gi*r.Gh)=true:=eA Tcd
       rw [cN h3] at yi;have H3:=aa h3;clear h3
       go_wp2_with (first | ((with_reducible refine hc1.mono ?_);rintro e w5 ⟨rfl,rfl⟩) | ((with_reducible refine hc2.mono ?_);rintro e w5 ⟨rfl,rfl⟩) | ((with_reducible refine hc3.mono ?_);rintro e w5 ⟨rfl,rfl⟩))
       go_meet;exact ⟨Tc3,rfl⟩
   case rest =>
    obtain ⟨rfl,rfl⟩:=hcut;have eK:=aa eI.o;cases sB:Dr r with
    | false =>
     rw [sB,aw rfl] at Ti;go_wp2;go_ret;exact ⟨TcQ,eI.o⟩
    | true =>
     rw [sB,bh Tce] at Ti;have yi:=aa sB;clear sB
     by_cases hp1:1<=r.Gg
     ·by_cases hp5:r.Gg<=5
      ·have hw5:Ek r.Gg 5=true:=by simp [Ek,hp1,hp5]
       rw [hw5,bh Tce] at Ti;have HW5:=aa hw5;clear hw5;have hq1:decide (r.Gg<1)=false:=cN Tcd;have hq5:decide (5<r.Gg)=false:=cN Tcd
       go_upto_region 11 with (fail)
       go_cut [71] (fun v wx=>v=.bool (!xM g r)/\wx=wc)
       case first =>
        cases hne:r.near.toList.isEmpty with
        | true =>
         rw [hne,aw rfl] at K7;cases c with
         | true =>
          go_wp2;go_meet;exact ⟨by rw [K7.o];rfl,rfl⟩
         | false =>
          go_wp2;go_meet;exact ⟨by rw [K7.o];rfl,rfl⟩
        | false =>
         rw [hne,bh Tce] at K7;cases YW with
         | true =>
          go_wp2;go_meet;exact ⟨by rw [K7.o];rfl,rfl⟩
         | false =>
          go_wp2;go_meet;exact ⟨by rw [K7.o];rfl,rfl⟩
       case rest =>
        obtain ⟨rfl,rfl⟩:=hcut;cases sy:xM g r with
        | false =>
         rw [sy,aw rfl] at Ti;have HN:=aa sy;clear sy;go_wp2;go_ret;exact ⟨TcQ,eI.o⟩
        | true =>
         rw [sy,bh Tce] at Ti;have HN:=aa sy;clear sy
         go_upto_region 13 with (fail)
         go_cut [87] (fun v wx=>v=.bool (!(eu r.tag&&eu r.sep))/\Below wc.heap.size wc wx)
         case first =>
          have ht1:=ry r.tag wc ht;cases PE:r.tag.toList.isEmpty with
          | true =>
           have HT:Hid (eu r.tag=true):=aa (by simp [eu,PE]);have hq1:=ry r.sep wc hq;cases Sz:r.sep.toList.isEmpty with
           | true =>
            have HQ:Hid (eu r.sep=true):=aa Tdn;go_wp2;go_meet;exact ⟨TcR,bj _ _⟩
           | false =>
            have HQ:Hid (eu r.sep=mr r.sep):=aa Tdn;cases Oz:mr r.sep with
            | true =>
             rw [Oz] at hq1 HQ;have WM:=aa Oz;clear Oz
             go_wp2_with ((with_reducible refine hq1.mono ?_);rintro e w5 ⟨rfl,hb5⟩)
             go_meet;exact ⟨TcR,hb5⟩
            | false =>
             rw [Oz] at hq1 HQ;have WM:=aa Oz;clear Oz
             go_wp2_with ((with_reducible refine hq1.mono ?_);rintro e w5 ⟨rfl,hb5⟩)
             go_meet;exact ⟨TcR,hb5⟩
          | false =>
           have HT:Hid (eu r.tag=mr r.tag):=aa (by simp [eu,PE]);cases Oz:mr r.tag with
           | false =>
            rw [Oz] at ht1 HT;have WM:=aa Oz;clear Oz
            go_wp2_with ((with_reducible refine ht1.mono ?_);rintro e w5 ⟨rfl,hb5⟩)
            go_meet;exact ⟨by rw [HT.o];rfl,hb5⟩
           | true =>
            rw [Oz] at ht1 HT;have WM:=aa Oz;clear Oz
            go_wp2_with fail
            refine ht1.mono ?_;rintro e w5 ⟨rfl,hb5⟩;have eK:=aa hb5;have rL:=(Sy.o.below hb5).rc;clear r0 r1 r2 r3 r4 r5 r6 hb5;have r6:=rL 6 _ rfl;clear rL;have Lz:=aa (ry r.sep w5 hq);clear ht1;cases Sz:r.sep.toList.isEmpty with
            | true =>
             have HQ:Hid (eu r.sep=true):=aa Tdn;go_wp2;go_meet;exact ⟨TcR,eK.o⟩
            | false =>
             have HQ:Hid (eu r.sep=mr r.sep):=aa Tdn;cases Oz:mr r.sep with
             | true =>
              rw [Oz] at Lz HQ;have WN:=aa Oz;clear Oz
              go_wp2_with fail
              refine Lz.o.mono ?_;rintro e w6 ⟨rfl,hb6⟩;have qs:=aa (eK.o.trans (hb6.mono eK.o.size));clear hb6 r6;go_wp2;go_meet;exact ⟨TcR,qs.o⟩
             | false =>
              rw [Oz] at Lz HQ;have WN:=aa Oz;clear Oz
              go_wp2_with fail
              refine Lz.o.mono ?_;rintro e w6 ⟨rfl,hb6⟩;have qs:=aa (eK.o.trans (hb6.mono eK.o.size));clear hb6 r6;go_wp2;go_meet;exact ⟨TcR,qs.o⟩
         case rest =>
          obtain ⟨rfl,sk⟩:=hcut;have B3:=aa (eI.o.trans (sk.mono eI.o.size));clear sk;cases gw:(eu r.tag&&eu r.sep) with
          | true =>
           rw [gw,bh Tce] at Ti;have j9:=aa gw;clear gw;go_wp2;go_ret;exact ⟨TcQ,B3.o⟩
          | false =>
           rw [gw,aw rfl] at Ti;have j9:=aa gw;clear gw;go_wp2;go_ret;exact ⟨TcQ,B3.o⟩
      ·have hw5:Ek r.Gg 5=false:=by simp [Ek,hp5]
       rw [hw5,aw rfl] at Ti;have HW5:=aa hw5;clear hw5;have hq1:decide (r.Gg<1)=false:=cN Tcd;have hq5:decide (5<r.Gg)=true:=eA Tcd;go_wp2;go_ret;exact ⟨TcQ,eI.o⟩
     ·have hw5:Ek r.Gg 5=false:=by simp [Ek,hp1]
      rw [hw5,aw rfl] at Ti;have HW5:=aa hw5;clear hw5;have hq1:decide (r.Gg<1)=true:=eA Tcd;go_wp2;go_ret;exact ⟨TcQ,eI.o⟩
 ·have qu:(x1 != 0)=true:=by simpa using hx
  have HX:=aa hx;clear hx;go_wp2;go_ret;exact ⟨by rw [LU.o,bh HX.o];rfl,cm.o⟩
end Go.Proofs.YtjdfihglehfelaaGreatDoor
