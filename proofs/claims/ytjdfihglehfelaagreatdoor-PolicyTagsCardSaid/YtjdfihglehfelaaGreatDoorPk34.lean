/- Lemmas: PolD, PolE. -/
import Derived.Test.YtjdfihglehfelaaGreatDoorPk33
set_option maxRecDepth 100000
set_option maxHeartbeats 32000000
set_option linter.all false
namespace Go.Proofs.YtjdfihglehfelaaGreatDoor
open Go.RowKit Go.Maps Go.Shelf
theorem EX:(Tryz.prog.info? 48).map (fun i=>(i.zero,i.size,i.bytes))=some (some (.slice none 0 0),1,24):=by kernel_rfl
theorem bM.ne {w:World}{B b:Nat}{v:Value}{l:List (Int × Int)}{cs:Array Value}{t:TypeId}{z:Nat × Nat}(h:bM w B v l)(hb:w.heap[b]?=some (.cells cs t z))(ht:t≠62):v.ownBlock≠some b:=fun e=>by
 obtain ⟨-,h2⟩:=h;rcases h2 with ⟨rfl,_⟩ | ⟨g,cap,cur,rfl,_,hg,_⟩
 ·cases e
 ·have:g=b:=by simpa [Value.ownBlock] using e
  subst this;rw [hb] at hg;injection hg with hg
  injection hg with _ e2
  exact ht e2
theorem bM.blk {w w':World}{B:Nat}{v:Value}{l:List (Int × Int)}(h:bM w B v l)(hk:∀ k,v.ownBlock=some k→w'.heap[k]?=w.heap[k]?):bM w' B v l:=aC h hk
theorem bM.slice {w:World}{B:Nat}{v:Value}{l:List (Int × Int)}(h:bM w B v l):∃ p n c,v=.slice p n c:=by
 obtain ⟨-,h2⟩:=h;rcases h2 with ⟨rfl,_⟩ | ⟨g,cap,cur,rfl,_⟩
 ·exact ⟨_,_,_,rfl⟩
 ·exact ⟨_,_,_,rfl⟩
def fH (w:World)(B:Nat)(v:Value)(xs:List (List (Int × Int))):Prop :=
 ∃ vs:List Value,w.ownsRow B 48 1 v xs.length vs∧vs.length=xs.length∧∀ (i:Nat) (u:Value) (x:List (Int × Int)),vs[i]?=some u→xs[i]?=some x→bM w B u x
theorem fH.nil (w:World)(B:Nat):fH w B (.slice none 0 0) []:=⟨[],World.ownsRow_nil w B _ 1,rfl,fun i u x h=>by cases h⟩
theorem fH.blk {w w':World}{B:Nat}{v:Value}{xs:List (List (Int × Int))}(h:fH w B v xs)(hk:∀ k,B≤k→k<w.heap.size→w'.heap[k]?=w.heap[k]?):fH w' B v xs:=by
 obtain ⟨vs,h1,h2,h3⟩:=h;refine ⟨vs,aC h1 fun k e=>hk k (World.ownsRow.lt h1 k e).1 (World.ownsRow.lt h1 k e).2,h2,fun i u x hu hx=>?_⟩;have ho:=h3 i u x hu hx;exact ho.blk fun k e=>hk k (World.ownsRow.lt ho k e).1 (World.ownsRow.lt ho k e).2
theorem fH.below {w w':World}{B:Nat}{v:Value}{xs:List (List (Int × Int))}(h:fH w B v xs)(hb:Below w.heap.size w w'):fH w' B v xs:=h.blk fun k _ hk=>hb.block k hk
theorem fH.mono {w:World}{B B':Nat}{v:Value}{xs:List (List (Int × Int))}(h:fH w B v xs)(hB:B'≤B):fH w B' v xs:=by
 obtain ⟨vs,⟨h0,h1⟩,h2,h3⟩:=h;refine ⟨vs,⟨h0,?_⟩,h2,fun i u x hu hx=>(h3 i u x hu hx).mono hB⟩;rcases h1 with hn | ⟨g,cap,cur,hv,hbb,r⟩
 ·exact .inl hn
 ·exact .inr ⟨g,cap,cur,hv,by omega,r⟩
theorem fH.cap {w:World}{B:Nat}{v:Value}{xs:List (List (Int × Int))}(h:fH w B v xs):∃ p c,v=.slice p xs.length c∧xs.length≤c∧c≤9223372036854775807:=by
 obtain ⟨vs,⟨h0,h1⟩,h2,h3⟩:=h;rcases h1 with ⟨rfl,hn⟩ | ⟨g,cap,cur,rfl,hbb,hg,hnc,hcm,r⟩
 ·exact ⟨none,0,by rw [hn],by omega,by omega⟩
 ·exact ⟨_,cap,rfl,hnc,by unfold maxLen at hcm;omega⟩
theorem fH.at {w:World}{B:Nat}{p:Option Addr}{n c:Nat}{xs:List (List (Int × Int))}(h:fH w B (.slice p n c) xs){k:Nat}{x:List (Int × Int)}(hx:xs[k]?=some x) :
  ∃ b u,p=some ⟨b,0,none⟩∧B≤b∧b<w.heap.size∧w.cell? ⟨b,k,none⟩=some u∧bM w B u x:=by
 obtain ⟨vs,⟨h0,h1⟩,h2,h3⟩:=h;have hk:=(List.getElem?_eq_some_iff.1 hx).1;rcases h1 with ⟨hv,hn⟩ | ⟨g,cap,cur,hv,hbb,hg,hnc,hcm,hcs,ht⟩
 ·omega
 ·injection hv with e1 _ e3
  subst e1;obtain ⟨u,hu⟩:=aj vs k (by omega);refine ⟨g,u,rfl,hbb,(Array.getElem?_eq_some_iff.1 hg).1,?_,h3 k u x hu hx⟩;have hu':=hu;rw [← ht,List.getElem?_take_of_lt (by omega)] at hu';rw [cell_of_row w g k cur _ (0,0) hg];simpa using hu'
theorem iA {w:World}{ops:Array Oper}{rest:List Oper}{o:Oper}{a:Act}{Q:Exit→Act→World→Prop}(hgd:o.guard=none)(s x:Operand)
  (ho:o.op=.call { callee:=.builtin .append,args:=#[s,x],argTypes:=#[42,42] })
  (B:Nat) (v:Value) (xs:List (List (Int × Int))) (u:Value) (l:List (Int × Int)) (hs:a.eval s=v) (hown:fH w B v xs) (hu:bM w B u l) (g c:Nat) (hx:a.eval x=.slice (some ⟨g,0,none⟩) 1 c)
  (hc:w.cell? ⟨g,0,none⟩=some u) (hl:xs.length≤100000000) (hB:B≤w.heap.size)
  (h:∀ v' w',fH w' B v' (xs++[l])→Below B w w'→(∀ (b:Nat) (cs:Array Value) (t:TypeId) (z:Nat × Nat),w.heap[b]?=some (.cells cs t z)→t≠48→w'.heap[b]?=w.heap[b]?)→wpList Tryz.prog ops Q rest (a.put o.dst v') w'):wpList Tryz.prog ops Q (o :: rest) a w:=by
 obtain ⟨i0,hi,hz0,hz1,hz2⟩:=info_parts EX;obtain ⟨vs,h1,h2,h3⟩:=hown;obtain ⟨pu,nu,cu,rfl⟩:=hu.slice;refine wpList_append_own w hgd s x 42 ho B 48 i0 _ 1 24 Tryz.underlying42 hi hz0 hz1 hz2 rfl (by decide) v xs.length vs hs h1 ⟨g,0,none⟩ 1 c [.slice pu nu cu] hx rfl (fun j y hy=>?_) (by simp [Value.oneCell']) (by unfold maxLen;omega) (by omega) hB (fun v' w' ho' hg _=>?_)
 ·rw [Addr.add_lit,Nat.zero_add]
  match j,hy with
  | 0,hy =>
   obtain rfl:Value.slice pu nu cu=y:=by simpa using hy
   exact hc
 ·have hvt:∀ (b:Nat) (cs:Array Value) (t:TypeId) (z:Nat × Nat),w.heap[b]?=some (.cells cs t z)→t≠48→w'.heap[b]?=w.heap[b]?:=fun b cs t z hb ht=>by
   refine hg.block b (lt_of_block hb) fun e=>?_;rcases h1.2 with ⟨rfl,_⟩ | ⟨g',cap,cur,rfl,_,hg',_⟩
   ·cases e
   ·have:g'=b:=by simpa [Value.ownBlock] using e.symm
    subst this;rw [hb] at hg';injection hg' with hg'
    injection hg' with _ e2
    exact ht e2
  have hkeep:∀ (y:Value) (m:List (Int × Int)),bM w B y m→bM w' B y m:=fun y m hy=>by
   refine hy.blk fun k e=>?_;rcases hy.2 with ⟨rfl,_⟩ | ⟨g',cap,cur,rfl,_,hg',_⟩
   ·cases e
   ·have:g'=k:=by simpa [Value.ownBlock] using e
    subst this;exact hvt _ _ _ _ hg' (by decide)
  refine h v' w' ⟨vs++[.slice pu nu cu],by rw [List.length_append];exact ho',by rw [List.length_append,List.length_append,h2];rfl,fun i y m hy hm=>?_⟩ ((Below.refl B w).grown hg hB (fun k hk=>(World.ownsRow.lt h1 k hk).1)) hvt
  by_cases hi:i<xs.length
  ·rw [List.getElem?_append_left (by omega)] at hy hm
   exact hkeep y m (h3 i y m hy hm)
  ·rw [List.getElem?_append_right (by omega)] at hy hm
   rw [h2] at hy
   match hj:i - xs.length,hy,hm with
   | 0,hy,hm =>
    obtain rfl:Value.slice pu nu cu=y:=by simpa using hy
    obtain rfl:l=m:=by simpa using hm
    exact hkeep _ _ hu
   | j+1,hy,hm=>simp at hm
structure kF (w:World)(Bj Bd:Nat)(r:aY)(np jp:Option Addr)(nc jc:Nat)(nl jl:List ByteArray)(d:az)(tp:Option Addr)(tc:Nat):Prop where
 at':BC w Bj Bd r np jp nc jc nl jl d tp tc
 n:RdS aF 1 (fun _=>True) w [.slice np nl.length nc] nl
 j:RdS aF 1 (fun _=>True) w [.slice jp jl.length jc] jl
 t:RdS aF 1 (fun _=>True) w [.slice tp d.tags.length tc] d.tags
theorem gI {α:Type}{V:Rdr α}(hV:Moves V){sz:Nat}{w w':World}{vs:List Value}{l:List α}(h:RdS V sz (fun _=>True) w vs l)(hb:Below w.heap.size w w'):RdS V sz (fun _=>True) w' vs l :=
 (RdS.moves hV).mv ⟨hb.size,fun b h1 _=>⟨trivial,hb.block b h1⟩⟩ h
theorem kF.below {w w':World}{Bj Bd:Nat}{r:aY}{np jp:Option Addr}{nc jc:Nat}{nl jl:List ByteArray}{d:az}{tp:Option Addr}{tc:Nat}(h:kF w Bj Bd r np jp nc jc nl jl d tp tc)(hb:Below w.heap.size w w'):kF w' Bj Bd r np jp nc jc nl jl d tp tc :=
 ⟨⟨(hb.block _ (lt_of_block h.at'.j)).trans h.at'.j,(hb.block _ (lt_of_block h.at'.d)).trans h.at'.d⟩,gI aF.moves h.n hb,gI aF.moves h.j hb,gI aF.moves h.t hb⟩
def lH (near tags:List ByteArray)(r:aY)(d:az):Nat→Bool
 | 0=>jV d
 | 1=>jG r.tag d
 | 2=>nN near r.Gg d
 | _=>vE near tags r.Gg d
def Ak:Nat→FuncId
 | 0=>51
 | 1=>52
 | 2=>53
 | _=>54
theorem nI {r:aY}{np jp:Option Addr}{nc jc:Nat}{nl jl:List ByteArray}{d:az}{tp:Option Addr}{tc:Nat}{w:World}{Bj Bd:Nat}(h:kF w Bj Bd r np jp nc jc nl jl d tp tc)(hnl:nl.length≤1000000)(hjl:jl.length≤1000000)(htl:d.tags.length≤1000000)(k:Nat) :
  Calls Tryz.prog (Ak k) #[.agg #[.int .i64 r.Gi,.int .i64 r.Gh,.int .i64 r.Gc,.int .i64 r.Gg,.string r.tag,.string r.near,.string r.sep,.slice np nl.length nc,.slice jp jl.length jc],.agg #[.string d.name,.int .u64 d.id,.int .i64 d.first,.int .i64 d.Gc,.bool d.closed,.bool d.missing,.slice tp d.tags.length tc]] w (iI (lH nl jl r d k) w):=by
 match k with
 | 0=>exact AX r np jp nc jc nl jl d tp tc w
 | 1=>exact zl r np jp nc jc nl jl d tp tc w h.t htl
 | 2=>exact yM r np jp nc jc nl jl d tp tc w h.n hnl
 | _+3=>exact ym r np jp nc jc nl jl d tp tc w h.n hnl h.t htl h.j hjl
theorem Dz {r:aY}{np jp:Option Addr}{nc jc:Nat}{nl jl:List ByteArray}{d:az}{tp:Option Addr}{tc:Nat}{w:World}{Bj Bd:Nat}(h:kF w Bj Bd r np jp nc jc nl jl d tp tc)(hnl:nl.length≤1000000)(hjl:jl.length≤1000000)(htl:d.tags.length≤1000000) :
  Calls Tryz.prog 56 #[.func (.func 51) #[] #[],.pointer (some ⟨Bj,0,none⟩),.pointer (some ⟨Bd,0,none⟩)] w (iI (!jV d) w):=by
 have HC:Hid (Calls Tryz.prog 51 #[.agg #[.int .i64 r.Gi,.int .i64 r.Gh,.int .i64 r.Gc,.int .i64 r.Gg,.string r.tag,.string r.near,.string r.sep,.slice np nl.length nc,.slice jp jl.length jc],.agg #[.string d.name,.int .u64 d.id,.int .i64 d.first,.int .i64 d.Gc,.bool d.closed,.bool d.missing,.slice tp d.tags.length tc]] w (iI (jV d) w)):=aa (nI h hnl hjl htl 0);have dL:=h.at'.dc;have d0:=dL 0 _ rfl;have d1:=dL 1 _ rfl;have d2:=dL 2 _ rfl;have d3:=dL 3 _ rfl;have d4:=dL 4 _ rfl;have d5:=dL 5 _ rfl;have d6:=dL 6 _ rfl;have jL:=h.at'.jc;have j0:=jL 0 _ rfl;have j1:=jL 1 _ rfl;have j2:=jL 2 _ rfl;have j3:=jL 3 _ rfl;have j4:=jL 4 _ rfl;have j5:=jL 5 _ rfl;have j6:=jL 6 _ rfl;have j7:=jL 7 _ rfl;have j8:=jL 8 _ rfl;clear dL jL h;generalize jV d=c at *;go_enter Tryz.func56,Tryz.ntmps56
 go_wp2_with (refine HC.out.mono ?_;rintro e w5 ⟨rfl,hb5⟩)
 go_ret;exact ⟨rfl,hb5⟩
theorem Cv {r:aY}{np jp:Option Addr}{nc jc:Nat}{nl jl:List ByteArray}{d:az}{tp:Option Addr}{tc:Nat}{w:World}{Bj Bd:Nat}(h:kF w Bj Bd r np jp nc jc nl jl d tp tc)(hnl:nl.length≤1000000)(hjl:jl.length≤1000000)(htl:d.tags.length≤1000000) :
  Calls Tryz.prog 56 #[.func (.func 52) #[] #[],.pointer (some ⟨Bj,0,none⟩),.pointer (some ⟨Bd,0,none⟩)] w (iI (!jG r.tag d) w):=by
 have HC:Hid (Calls Tryz.prog 52 #[.agg #[.int .i64 r.Gi,.int .i64 r.Gh,.int .i64 r.Gc,.int .i64 r.Gg,.string r.tag,.string r.near,.string r.sep,.slice np nl.length nc,.slice jp jl.length jc],.agg #[.string d.name,.int .u64 d.id,.int .i64 d.first,.int .i64 d.Gc,.bool d.closed,.bool d.missing,.slice tp d.tags.length tc]] w (iI (jG r.tag d) w)):=aa (nI h hnl hjl htl 1);have dL:=h.at'.dc;have d0:=dL 0 _ rfl;have d1:=dL 1 _ rfl;have d2:=dL 2 _ rfl;have d3:=dL 3 _ rfl;have d4:=dL 4 _ rfl;have d5:=dL 5 _ rfl;have d6:=dL 6 _ rfl;have jL:=h.at'.jc;have j0:=jL 0 _ rfl;have j1:=jL 1 _ rfl;have j2:=jL 2 _ rfl;have j3:=jL 3 _ rfl;have j4:=jL 4 _ rfl;have j5:=jL 5 _ rfl;have j6:=jL 6 _ rfl;have j7:=jL 7 _ rfl;have j8:=jL 8 _ rfl;clear dL jL h;generalize jG r.tag d=c at *;go_enter Tryz.func56,Tryz.ntmps56
 go_wp2_with (refine HC.out.mono ?_;rintro e w5 ⟨rfl,hb5⟩)
 go_ret;exact ⟨rfl,hb5⟩
theorem CB {r:aY}{np jp:Option Addr}{nc jc:Nat}{nl jl:List ByteArray}{d:az}{tp:Option Addr}{tc:Nat}{w:World}{Bj Bd:Nat}(h:kF w Bj Bd r np jp nc jc nl jl d tp tc)(hnl:nl.length≤1000000)(hjl:jl.length≤1000000)(htl:d.tags.length≤1000000) :
  Calls Tryz.prog 56 #[.func (.func 53) #[] #[],.pointer (some ⟨Bj,0,none⟩),.pointer (some ⟨Bd,0,none⟩)] w (iI (!nN nl r.Gg d) w):=by
 have HC:Hid (Calls Tryz.prog 53 #[.agg #[.int .i64 r.Gi,.int .i64 r.Gh,.int .i64 r.Gc,.int .i64 r.Gg,.string r.tag,.string r.near,.string r.sep,.slice np nl.length nc,.slice jp jl.length jc],.agg #[.string d.name,.int .u64 d.id,.int .i64 d.first,.int .i64 d.Gc,.bool d.closed,.bool d.missing,.slice tp d.tags.length tc]] w (iI (nN nl r.Gg d) w)):=aa (nI h hnl hjl htl 2);have dL:=h.at'.dc;have d0:=dL 0 _ rfl;have d1:=dL 1 _ rfl;have d2:=dL 2 _ rfl;have d3:=dL 3 _ rfl;have d4:=dL 4 _ rfl;have d5:=dL 5 _ rfl;have d6:=dL 6 _ rfl;have jL:=h.at'.jc;have j0:=jL 0 _ rfl;have j1:=jL 1 _ rfl;have j2:=jL 2 _ rfl;have j3:=jL 3 _ rfl;have j4:=jL 4 _ rfl;have j5:=jL 5 _ rfl;have j6:=jL 6 _ rfl;have j7:=jL 7 _ rfl;have j8:=jL 8 _ rfl;clear dL jL h;generalize nN nl r.Gg d=c at *;go_enter Tryz.func56,Tryz.ntmps56
 go_wp2_with (refine HC.out.mono ?_;rintro e w5 ⟨rfl,hb5⟩)
 go_ret;exact ⟨rfl,hb5⟩
theorem Dm {r:aY}{np jp:Option Addr}{nc jc:Nat}{nl jl:List ByteArray}{d:az}{tp:Option Addr}{tc:Nat}{w:World}{Bj Bd:Nat}(h:kF w Bj Bd r np jp nc jc nl jl d tp tc)(hnl:nl.length≤1000000)(hjl:jl.length≤1000000)(htl:d.tags.length≤1000000) :
  Calls Tryz.prog 56 #[.func (.func 54) #[] #[],.pointer (some ⟨Bj,0,none⟩),.pointer (some ⟨Bd,0,none⟩)] w (iI (!vE nl jl r.Gg d) w):=by
 have HC:Hid (Calls Tryz.prog 54 #[.agg #[.int .i64 r.Gi,.int .i64 r.Gh,.int .i64 r.Gc,.int .i64 r.Gg,.string r.tag,.string r.near,.string r.sep,.slice np nl.length nc,.slice jp jl.length jc],.agg #[.string d.name,.int .u64 d.id,.int .i64 d.first,.int .i64 d.Gc,.bool d.closed,.bool d.missing,.slice tp d.tags.length tc]] w (iI (vE nl jl r.Gg d) w)):=aa (nI h hnl hjl htl 3);have dL:=h.at'.dc;have d0:=dL 0 _ rfl;have d1:=dL 1 _ rfl;have d2:=dL 2 _ rfl;have d3:=dL 3 _ rfl;have d4:=dL 4 _ rfl;have d5:=dL 5 _ rfl;have d6:=dL 6 _ rfl;have jL:=h.at'.jc;have j0:=jL 0 _ rfl;have j1:=jL 1 _ rfl;have j2:=jL 2 _ rfl;have j3:=jL 3 _ rfl;have j4:=jL 4 _ rfl;have j5:=jL 5 _ rfl;have j6:=jL 6 _ rfl;have j7:=jL 7 _ rfl;have j8:=jL 8 _ rfl;clear dL jL h;generalize vE nl jl r.Gg d=c at *;go_enter Tryz.func56,Tryz.ntmps56
 go_wp2_with (refine HC.out.mono ?_;rintro e w5 ⟨rfl,hb5⟩)
 go_ret;exact ⟨rfl,hb5⟩
theorem EF {r:aY}{np jp:Option Addr}{nc jc:Nat}{nl jl:List ByteArray}{d:az}{tp:Option Addr}{tc:Nat}{w:World}{Bj Bd:Nat}(h:kF w Bj Bd r np jp nc jc nl jl d tp tc)(hnl:nl.length≤1000000)(hjl:jl.length≤1000000)(htl:d.tags.length≤1000000)(k:Nat) :
  Calls Tryz.prog 56 #[.func (.func (Ak k)) #[] #[],.pointer (some ⟨Bj,0,none⟩),.pointer (some ⟨Bd,0,none⟩)] w (iI (!lH nl jl r d k) w):=by
 match k with
 | 0=>exact Dz h hnl hjl htl
 | 1=>exact Cv h hnl hjl htl
 | 2=>exact CB h hnl hjl htl
 | _+3=>exact Dm h hnl hjl htl
def qd (w:World)(b:Nat):Prop:=w.heap[b]?=some (.cells #[.func (.func 51) #[] #[],.func (.func 52) #[] #[],.func (.func 53) #[] #[],.func (.func 54) #[] #[]] 103 (0,0))
theorem C9 {w:World}{b:Nat}(h:qd w b)(k:Nat)(hk:k<4):w.cell? ⟨b,k,none⟩=some (.func (.func (Ak k)) #[] #[]):=by
 have h:w.heap[b]?=_:=h;rcases (show k=0∨k=1∨k=2∨k=3 by omega) with rfl | rfl | rfl | rfl <;> (simp only [World.cell?,h];rfl)
theorem sH {r:aY}{np jp:Option Addr}{nc jc:Nat}{nl jl:List ByteArray}{d:az}{tp:Option Addr}{tc:Nat}{w:World}{Bj Bd b:Nat}(h:kF w Bj Bd r np jp nc jc nl jl d tp tc)(hcs:qd w b)(hnl:nl.length≤1000000)(hjl:jl.length≤1000000)(htl:d.tags.length≤1000000) :
  Calls Tryz.prog 106 #[.slice (some ⟨b,0,none⟩) 4 4,.func (.func 56) #[] #[.pointer (some ⟨Bj,0,none⟩),.pointer (some ⟨Bd,0,none⟩)]] w
   fun e w'=>(∃ q:Int,e=.returned (.int .i64 q)∧decide (0≤q)=!iD nl jl r d)∧Below w.heap.size w w':=by
 have HH:=aa h;clear h;have HCS:=aa hcs;clear hcs;have HU:Hid (iD nl jl r d=(lH nl jl r d 0&&(lH nl jl r d 1&&(lH nl jl r d 2&&lH nl jl r d 3)))):=aa rfl;go_enter Tryz.func106,Tryz.ntmps106;go_wp2
 go_loopw [8,5] (fun i _ wr=>∃ k:Nat,k≤4∧i=.int .i64 k∧Below w.heap.size w wr∧∀ j,j<k→lH nl jl r d j=true) (fun i _ _=>4 - (intOf i).toNat)
 case atStart=>exact ⟨0,Nat.zero_le _,rfl,Below.refl _ _,fun j hj=>absurd hj (by omega)⟩
 case round =>
  obtain ⟨k,hk,rfl,hB,hall⟩:=hrel;have HALL:=aa hall;clear hall;have HB:=aa hB;clear hB
  by_cases hlt:k<4
  ·have q0:=(HB.out.cell (p:=⟨b,k,none⟩) (lt_of_block HCS.out)).trans (C9 HCS.out k hlt)
   have HA:=aa (EF (HH.out.below HB.out) hnl hjl htl k)
   have HFA:Hid (lH nl jl r d k=false→iD nl jl r d=false):=aa fun hf=>by
    rw [HU.out];rcases (show k=0∨k=1∨k=2∨k=3 by omega) with rfl | rfl | rfl | rfl <;> rw [hf] <;> simp
   generalize Ak k=F at *;cases hc:lH nl jl r d k with
   | false =>
    rw [hc] at HA;have HR:=aa (HFA.out hc);clear hc
    go_wp2_with (refine HA.out.mono ?_;rintro e w5 ⟨rfl,hb5⟩)
    go_ret;exact ⟨⟨k,rfl,by rw [HR.out];simp⟩,HB.out.trans (hb5.mono HB.out.size)⟩
   | true =>
    rw [hc] at HA
    have HR:Hid (∀ j,j<k+1→lH nl jl r d j=true):=aa fun j hj=>by
     by_cases e:j=k
     ·rw [e];exact hc
     ·exact HALL.out j (by omega)
    clear hc
    go_wp2_with (refine HA.out.mono ?_;rintro e w5 ⟨rfl,hb5⟩)
    have HB5:=aa (HB.out.trans (hb5.mono HB.out.size));go_roundw
    case rel=>exact ⟨k+1,by omega,by go_num,HB5.out,HR.out⟩
    case measure=>simp [intOf];omega
  ·obtain rfl:k=4:=by omega
   have HR:Hid (iD nl jl r d=true):=aa (by rw [HU.out,HALL.out 0 (by omega),HALL.out 1 (by omega),HALL.out 2 (by omega),HALL.out 3 (by omega)];rfl);go_wp2;go_ret;exact ⟨⟨-1,rfl,by rw [HR.out];rfl⟩,HB.out⟩
theorem oD {r:aY}{np jp:Option Addr}{nc jc:Nat}{nl jl:List ByteArray}{d:az}{tp:Option Addr}{tc:Nat}{w:World}{Bj Bd b:Nat}(h:kF w Bj Bd r np jp nc jc nl jl d tp tc)(hcs:qd w b)(hnl:nl.length≤1000000)(hjl:jl.length≤1000000)(htl:d.tags.length≤1000000) :
  Calls Tryz.prog 55 #[.slice (some ⟨b,0,none⟩) 4 4,.func (.func 56) #[] #[.pointer (some ⟨Bj,0,none⟩),.pointer (some ⟨Bd,0,none⟩)]] w (iI (!iD nl jl r d) w):=by
 go_enter Tryz.func55,Tryz.ntmps55
 go_wp2_with fail
 refine (sH h hcs hnl hjl htl).mono ?_;rintro e w2 ⟨⟨q,rfl,hr2⟩,hb2⟩;have HR:=aa hr2;clear hr2;have HB:=aa hb2;clear hb2;go_wp2;go_ret;exact ⟨ah HR.out,HB.out⟩
theorem AP (nm:ByteArray)(e:ByteArray × Int){x:List (Int × Int)}{k:Nat}{r:Int × Int}(h:x[k]?=some r):su nm e (x.take (k+1))=su nm e (x.take k)++if e.1=nm∧r.1≤e.2∧e.2<r.1+r.2 then [(e.2,r.1+r.2 - e.2)] else []:=by
 rw [take_snoc' x k r h];unfold su;rw [List.filterMap_append]
 congr 1
 by_cases c:e.1=nm∧r.1≤e.2∧e.2<r.1+r.2
 ·rw [if_pos c]
  simp [c]
 ·rw [if_neg c]
  rw [List.filterMap_cons,if_neg c];rfl
theorem BD (nm:ByteArray)(x:List (Int × Int)){E:List (ByteArray × Int)}{k:Nat}{e:ByteArray × Int}(h:E[k]?=some e):mQ (E.take (k+1)) nm x=mQ (E.take k) nm x++su nm e x:=by
 rw [take_snoc' E k e h];simp [mQ]
theorem yI {ok:Nat→Prop}(g:af)(a:bN)(vol dn:ByteArray)(x:List (Int × Int))(v3:Value)(w:World)(hr:RdS aN 6 ok w [.slice a.vp g.F9.length a.vc] g.F9)(hz:GSz g)(ht:qx g.F9)(hps:∀ v∈g.F9,∀ s∈v.Gf,fP s→∀ a∈s.Ga,0≤a.start∧a.start≤1000000)
  (hx:RdR w v3 x) (hxb:∀ p∈x,0≤p.1∧1≤p.2∧p.1+p.2≤1073741824) (hxl:x.length≤30000) (hel:(jE g vol).length≤10) :
  Calls Tryz.prog 58 #[.agg #[.string g.name,.int .u64 g.id,.int .i64 g.seq,.int .i64 g.Gd,.int .i64 g.next,.slice a.tp g.tags.length a.tc,.slice a.dp g.Gb.length a.dc,.slice a.vp g.F9.length a.vc,.slice a.hp g.history.length a.hc],.string vol,.string dn,v3] w (zz w (Mem (mQ (jE g vol) dn x)) 300000):=by
 have HG:=aa hr;clear hr;have HX0:=aa hx;obtain ⟨p3,c3,rfl,hxc1,hxc2,hx3⟩:=hx;have HX:=aa hx3;clear hx3;have HXB:=aa hxb;clear hxb;have HBG:=aa (ae w (.cells #[.string g.name,.int .u64 g.id,.int .i64 g.seq,.int .i64 g.Gd,.int .i64 g.next,.slice a.tp g.tags.length a.tc,.slice a.dp g.Gb.length a.dc,.slice a.vp g.F9.length a.vc,.slice a.hp g.history.length a.hc] 31));have HBg:=aa (heap_alloc_new w (.cells #[.string g.name,.int .u64 g.id,.int .i64 g.seq,.int .i64 g.Gd,.int .i64 g.next,.slice a.tp g.tags.length a.tc,.slice a.dp g.Gb.length a.dc,.slice a.vp g.F9.length a.vc,.slice a.hp g.history.length a.hc] 31))
 have gL:∀ (i:Nat) (z:Value),[.string g.name,.int .u64 g.id,.int .i64 g.seq,.int .i64 g.Gd,.int .i64 g.next,.slice a.tp g.tags.length a.tc,.slice a.dp g.Gb.length a.dc,.slice a.vp g.F9.length a.vc,.slice a.hp g.history.length a.hc][i]?=some z→(w.alloc (.cells #[.string g.name,.int .u64 g.id,.int .i64 g.seq,.int .i64 g.Gd,.int .i64 g.next,.slice a.tp g.tags.length a.tc,.slice a.dp g.Gb.length a.dc,.slice a.vp g.F9.length a.vc,.slice a.hp g.history.length a.hc] 31)).cell? ⟨w.heap.size,i,none⟩=some z:=fun i z hz=>by
  simp only [World.cell?,HBg.out];simpa using hz
 go_enter Tryz.func58,Tryz.ntmps58
 go_upto_region 2 with (fail)
 generalize hW1:World.alloc w _=W1 at *;have g0:=gL 0 _ rfl;have g1:=gL 1 _ rfl;have g2:=gL 2 _ rfl;have g3:=gL 3 _ rfl;have g4:=gL 4 _ rfl;have g5:=gL 5 _ rfl;have g6:=gL 6 _ rfl;have g7:=gL 7 _ rfl;have g8:=gL 8 _ rfl;clear gL hW1;have HEN:=aa (Cr (ok:=ok) g a vol W1 ((RdS.moves aN.moves).mv (Mv.of HBG.out) HG.out) hz ht hps);clear hz ht hps
 go_wp2_with fail
 clear g0 g1 g2 g3 g4 g5 g6 g7 g8;refine HEN.out.mono ?_;clear HEN;rintro e w2 ⟨ev,rfl,how,hb2⟩;have HB2:=aa (HBG.out.trans (hb2.mono HBG.out.size));have hrd:RdS aQ 3 (fun _=>True) w2 [ev] ((jE g vol).map fun x=>⟨false,x.1,x.2⟩):=bF.rd aQ.moves how (by decide) (fun _ _ _=>trivial) (fun _ _=>trivial);clear how hb2;generalize hE:jE g vol=E at *;have HEL:=aa hE;clear hE;obtain ⟨ep,ec,rfl,hec1,hec2⟩:=hrd.cap;have HRD:=aa hrd;clear hrd;rw [List.length_map] at hec1 ⊢;have hwz2:=HB2.out.size
 have HX2:Hid (0<x.length→∃ b off,p3=some ⟨b,off,none⟩∧b<w2.heap.size∧ru w2 b off x):=aa fun h=>by
  obtain ⟨b,off,e,hb,hc⟩:=HX.out h;exact ⟨b,off,e,by omega,hc.below HB2.out hb⟩
 have hxx:x.length≤9223372036854775807:=by omega
 go_upto_region 3 with (fail)
 go_loopw [10,19] (fun lv i wr=>∃ k:Nat,k≤E.length∧i=.int .i64 k∧bM wr w2.heap.size lv (mQ (E.take k) dn x)∧Below w2.heap.size w2 wr) (fun _ i _=>E.length - (intOf i).toNat)
 case atStart=>exact ⟨0,Nat.zero_le _,rfl,bM.nil _ _,Below.refl _ _⟩
 case round =>
  obtain ⟨k,hk,rfl,hown,hB⟩:=hrel;have HOW:=aa hown;clear hown;have HB:=aa hB;clear hB
  have hbl:(mQ (E.take k) dn x).length≤300000:=by
   have h1:=Dj (E.take k) dn x;have h2:(E.take k).length*x.length≤10*30000:=Nat.mul_le_mul (by rw [List.length_take];omega) hxl;omega
  by_cases hlt:k<E.length
  ·obtain ⟨e,he⟩:=aj E k hlt
   obtain ⟨b,off,us,rfl,hob,hbw,hul,hvs,hcv⟩:=HRD.out.elem (k:=k) (x:=(⟨false,e.1,e.2⟩:aR)) (by rw [List.getElem?_map,he];rfl);obtain rfl:us=_:=hvs;have hbk:wr.heap[b]?=w2.heap[b]?:=HB.out.block b hbw;have q0:=bK hbk (hcv 0 _ rfl);have q1:=ai hbk (hcv 1 _ rfl);have q2:=ai hbk (hcv 2 _ rfl);dsimp only at q1 q2;have HSN:=aa (BD dn x he);have hwz:=HB.out.size;clear he hcv hul hbk;have hA:=ae wr (.cells #[.bool false,.string e.1,.int .i64 e.2] 60);have HBa:=aa (heap_alloc_new wr (.cells #[.bool false,.string e.1,.int .i64 e.2] 60));have HB3:=aa (HB.out.trans (hA.mono hwz));have HOW3:=aa (HOW.out.below hA);clear hA
   go_upto_region 6 with (fail)
   clear q0 q1 q2;generalize hW3:World.alloc wr _=W3 at *;generalize hBa:wr.heap.size=Ba at *;clear hW3 HB HOW;generalize hL0:mQ (E.take k) dn x=L0 at *;have HL0:=aa hL0;clear hL0
   go_loopw [10,25] (fun lv i wi=>∃ j:Nat,j≤x.length∧i=.int .i64 j∧bM wi w2.heap.size lv (L0++su dn e (x.take j))∧wi.heap[Ba]?=some (.cells #[.bool false,.string e.1,.int .i64 e.2] 60 (0,0))∧Below w2.heap.size w2 wi) (fun _ i _=>x.length - (intOf i).toNat)
   case atStart=>exact ⟨0,Nat.zero_le _,rfl,by rw [List.take_zero,show su dn e []=[] from rfl,List.append_nil];exact HOW3.out,HBa.out,HB3.out⟩
   case round =>
    clear HBa HB3 HOW3;obtain ⟨j,hj,rfl,hown,hba,hB⟩:=hrel;have HOW:=aa hown;clear hown;have HB:=aa hB;clear hB;have HBa:=aa hba;clear hba;have hwz2':=HB.out.size;have hbe:=wT dn e (x.take j);rw [List.length_take] at hbe
    by_cases hlt2:j<x.length
    ·obtain ⟨r,hr⟩:=aj x j hlt2
     obtain ⟨b4,off4,hp3,hb4,hc4⟩:=HX2.out (by omega);subst hp3;have hc:=hc4.below HB.out hb4 j r hr;have x0:=hc.1;have x1:=hc.2;have HBS:=aa (AP dn e hr);have hrb:=HXB.out r (List.mem_of_getElem? hr);obtain ⟨hr1,hr2,hr3⟩:=hrb;clear hc hc4 hr;have hba0:=lt_of_block HBa.out;have hA:=ae wr (.cells #[.int .i64 r.1,.int .i64 r.2] 62);have HBr:=aa (heap_alloc_new wr (.cells #[.int .i64 r.1,.int .i64 r.2] 62));have HB4:=aa (HB.out.trans (hA.mono hwz2'));have HOW4:=aa (HOW.out.below hA);have HBa4:=aa ((hA.block _ hba0).trans HBa.out);clear hA
     go_upto_region 8 with (fail)
     clear x0 x1;generalize hW5:World.alloc wr _=W5 at *;generalize hBr:wr.heap.size=Br at *;clear hW5 HB HOW HBa;have a1:W5.cell? ⟨Ba,1,none⟩=some (.string e.1):=by simp [World.cell?,HBa4.out]
     have a2:W5.cell? ⟨Ba,2,none⟩=some (.int .i64 e.2):=by simp [World.cell?,HBa4.out]
     have r0:W5.cell? ⟨Br,0,none⟩=some (.int .i64 r.1):=by simp [World.cell?,HBr.out]
     have r1:W5.cell? ⟨Br,1,none⟩=some (.int .i64 r.2):=by simp [World.cell?,HBr.out]
     have hwr:IntKind.i64.wrap (r.1+r.2)=r.1+r.2:=IntWalk.i64_in _ (by omega)
     by_cases hen:e.1=dn
     ·have hb1:(e.1.toList == dn.toList)=true:=by rw [hen];simp
      have HEN:=aa hen;clear hen
      by_cases h1:r.1≤e.2
      ·by_cases h2:e.2<r.1+r.2
       ·rw [if_pos ⟨HEN.out,h1,h2⟩] at HBS
        have hws:IntKind.i64.wrap (r.1+r.2 - e.2)=r.1+r.2 - e.2:=IntWalk.i64_in _ (by omega);have hwz5:=HB4.out.size
        go_wp2_with (at_builtin;refine jg rfl _ _ rfl w2.heap.size _ (L0++su dn e (x.take j)) (e.2,r.1+r.2 - e.2) rfl ?c1 W5.heap.size 1 rfl ?c2 ?c3 ?c4 ?c5 ?_)
        case c1=>exact HOW4.out.below (ae _ _)
        all_goals first | (case c2=>exact aD rfl rfl) | (case c3=>exact aD rfl rfl) | (case c4=>rw [List.length_append];omega) | (case c5=>simp;omega) | skip
        intro v' w6 hown1 hb1' hg1;have hA:=ae W5 (.cells #[.int .i64 e.2,.int .i64 (r.1+r.2 - e.2)] 62);have hba5:=(hA.block _ (lt_of_block HBa4.out)).trans HBa4.out;have HB6:=aa ((HB4.out.trans (hA.mono hwz5)).trans hb1');have HBa6:=aa ((hg1.block Ba (lt_of_block hba5) (fun e=>(HOW4.out.below hA).ne hba5 (by decide) e.symm)).trans hba5);have HOW6:=aa hown1;clear hA hba5 hb1' hg1 hown1 a1 a2 r0 r1;go_wp2;go_roundw
        case rel=>exact ⟨j+1,by omega,by go_num,by rw [HBS.out];first | exact HOW6.out | (rw [← List.append_assoc];exact HOW6.out),HBa6.out,HB6.out⟩
        case measure=>simp [intOf];omega
       ·rw [if_neg (fun c=>h2 c.2.2),List.append_nil] at HBS
        go_wp2;go_roundw
        case rel=>exact ⟨j+1,by omega,by go_num,by rw [HBS.out];exact HOW4.out,HBa4.out,HB4.out⟩
        case measure=>simp [intOf];omega
      ·rw [if_neg (fun c=>h1 c.2.1),List.append_nil] at HBS
       go_wp2;go_roundw
       case rel=>exact ⟨j+1,by omega,by go_num,by rw [HBS.out];exact HOW4.out,HBa4.out,HB4.out⟩
       case measure=>simp [intOf];omega
     ·have hb1:=jI hen
      rw [if_neg (fun c=>hen c.1),List.append_nil] at HBS;have HEN:=aa hen;clear hen;go_wp2;go_roundw
      case rel=>exact ⟨j+1,by omega,by go_num,by rw [HBS.out];exact HOW4.out,HBa4.out,HB4.out⟩
      case measure=>simp [intOf];omega
    ·obtain rfl:j=x.length:=by omega
     rw [List.take_length] at HOW;have HOWN:Hid (bM wr w2.heap.size _ (mQ (E.take (k+1)) dn x)):=aa (by rw [HSN.out];exact HOW.out);clear HOW;go_wp2;go_roundw
     case rel=>exact ⟨k+1,by omega,by go_num,HOWN.out,HB.out⟩
     case measure=>simp [intOf];omega
  ·obtain rfl:k=E.length:=by omega
   rw [List.take_length] at HOW hbl;have HV:=aa (xS (ends:=E) (nm:=dn) HXB.out);have HN:=aa (tJ (mQ E dn x) _ wr HOW.out.rd HV.out (by omega));have HBW:Hid (Below w.heap.size w wr):=aa (HB2.out.trans (HB.out.mono hwz2));clear HOW
   go_wp2_with fail
   refine HN.out.mono ?_;rintro e' w7 ⟨v7,x7,rfl,ho7,hn7,hl7,hb7⟩;have HO7:=aa ho7;clear ho7;have HN7:=aa hn7;clear hn7;have HB7:=aa (HBW.out.trans (hb7.mono HBW.out.size));have HSZ:=aa HBW.out.size;clear hb7;go_wp2;go_ret2;exact ⟨v7,x7,rfl,HO7.out.mono HSZ.out,HN7.out,by omega,HB7.out⟩
end Go.Proofs.YtjdfihglehfelaaGreatDoor
