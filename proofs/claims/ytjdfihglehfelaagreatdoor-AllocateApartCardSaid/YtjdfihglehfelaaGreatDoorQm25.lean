/- Lemmas: ModZf, PolS, PolB, PolC. -/
import Derived.Test.YtjdfihglehfelaaGreatDoorQm24
set_option maxRecDepth 100000
set_option maxHeartbeats 32000000
set_option linter.all false
namespace Go.Proofs.YtjdfihglehfelaaGreatDoor
open Go.Proofs.Tryz
open Go.RowKit Go.Maps Go.Shelf
theorem wK:∀ {l:List (ByteArray × Int)},(oW l).2=0->∀ x∈l,x.2=0
 | [],_,x,hx=>by cases hx
 | r :: l,h,x,hx=>by
  unfold oW at h;split at h
  ·rename_i hr
   rcases List.mem_cons.1 hx with rfl | hx
   ·exact hr
   ·exact wK h x hx
  ·rename_i hr
   exact absurd h hr
variable {g:af}
theorem Dg (h:(pM g).2=0):(dZ g).2=0/\(dw g).2=0/\(dJ g).2=0/\(iP g).2=0/\(mY g).2=0/\(qG g).2=0/\(pE g).2=0/\(rY g).2=0:=by
 have:=wK h;exact ⟨this _ Tce,this _ Tce,this _ Tce,this _ Tce,this _ Tce,this _ Tce,this _ Tce,this _ Tce⟩
theorem Au {l:List ByteArray}(h:eP l=0):l.length<=8:=by
 unfold eP at h;split at h
 ·cases h
 ·omega
theorem zy (h:(dw g).2=0):∀ d∈g.Gb,d.tags.length<=8:=fun d hd=>by
 obtain ⟨j,hj⟩:=fc hd;have:=ll (i:=0) h j d hj;rw [eJ] at this;unfold pg at this;split at this
 ·cases this
 ·split at this
  ·cases this
  ·split at this
   ·cases this
   ·exact Au this
theorem qQ {ext:Int}{s:aB}{st:Int}(h:bJ ext s st=true):fP s->∀ a∈s.Ga,a.vol=false:=by
 intro ho a ha;cases hs:shapeOf s.kind with
 | none=>rw [jT hs] at h;cases h
 | some x =>
  have hx:x.F9=false:=by
   rcases ho with q | q | q <;> (rw [q] at hs;cases hs;rfl)
  rw [jP hs] at h;simp only [eh,fk] at h;have h5:=h.1.1.1.1.1.1.1.1.1.2;have:=List.all_eq_true.1 h5 a ha;unfold bT at this;rw [hx] at this;simp only [eh] at this;simpa using this.1
theorem lY {α β:Type}(f:α->List β)(m:Nat):∀ l:List α,(∀ x∈l,(f x).length<=m)->(l.flatMap f).length<=l.length*m
 | [],_=>by simp
 | x :: l,h=>by
  have h1:=h x (cG ..);have h2:=lY f m l fun y hy=>h y (kn _ hy);rw [lB,cD,cS,ie];omega
theorem Cb (s:aB):(rQ s).length<=s.Ga.length+2:=by
 unfold rQ;rw [cD,cD,fW];have:=tk (fun a:aR=>a.vol) s.Ga;split <;> split <;> simp <;> omega
theorem rP:∀ {l:List az} {i:Nat} {D:az},(l.map (·.name)).Nodup->l[i]?=some D->bH l D.name=some D
 | [],_,_,_,h=>by cases h
 | x :: l,i,D,hn,h=>by
  rw [iu,List.nodup_cons] at hn;unfold bH;rw [List.find?_cons]
  match i,h with
  | 0,h =>
   obtain rfl:x=D:=by simpa using h
   simp
  | i+1,h =>
   have h':l[i]?=some D:=by simpa using h
   have:¬ x.name=D.name:=fun e=>hn.1 (e ▸ List.mem_map.2 ⟨D,ct h',rfl⟩);rw [cN this];exact rP hn.2 h'
structure E9 (g:af):Prop where
 nd:rT g
 dl:g.Gb.length<=8
 dt:∀ d∈g.Gb,d.tags.length<=8
 de:∀ d∈g.Gb,0<=d.Gc/\d.Gc<=4096
 df:∀ (i:Nat) (D:az),g.Gb[i]?=some D->bH g.Gb D.name=some D
 vl:g.F9.length<=32
 tm:qx g.F9
 ps:∀ p∈pieces g.F9,0<=p.start/\p.start<=4096
 pn:(pieces g.F9).length<=12288
 a6:∀ v∈g.F9,∀ s∈v.Gf,s.Ga.length<=6
theorem Fb (hi:NL g)(h:(pM g).2=0):E9 g:=by
 obtain ⟨h1,h2,h3,h4,h5,-,-,-⟩:=Dg h;obtain ⟨r1,r2⟩:=iT h1;have hs:=mZ h4;have hv:=nH h3;have hd:=nG h2
 have vu:∀ d∈g.Gb,0<=d.Gc/\d.Gc<=4096:=fun d hd'=>by
  have:=(hd.2 d hd').1;unfold jQ at this;omega
 have yq:∀ v∈g.F9,∀ s∈v.Gf,s.Ga.length<=6:=fun v hv' s hs'=>(hs v hv' s hs').fm.ar
 have hpc:∀ v∈g.F9,(aW v).length<=384:=fun v hv'=>by
  have h0:=(hv v hv').2.2.2
  have h6:=lY (aK v.name) 6 v.Gf fun s hs'=>by
   have:=yq v hv' s hs';unfold aK;split
   ·rw [fW];exact this
   ·simp
  have:v.Gf.length*6<=64*6:=tA _ h0;unfold aW;omega
 refine ⟨⟨⟨hi.sz,fun v hv'=>by have:=(hv v hv').2.1;unfold maxLen;omega,fun v hv'=>?_,fun v hv' x hx=>?_,by have:=r2.2.1;omega⟩,fun d hd'=>?_,by have:=r2.1;omega,fun v hv'=>?_,fun v hv' s hs' a ha=>?_⟩,r2.1,zy h2,vu,fun i D hD=>rP hd.1 hD,r2.2.1,fun v hv'=>⟨by have:=(hv v hv').2.2.2;omega,fun s hs'=>?_⟩,fun p hp=>?_,?_,yq⟩
 ·have h0:=(hv v hv').2.2.2
  have h6:=lY rQ 8 v.Gf fun s hs'=>by have:=yq v hv' s hs';have:=Cb s;omega
  have:v.Gf.length*8<=64*8:=tA _ h0;unfold kY;omega
 ·obtain ⟨s,hs',hx⟩:=List.mem_flatMap.1 hx
  obtain ⟨m1,m2,m3,m4⟩:=hi.st v hv' s hs';unfold maxLen;unfold rQ at hx;rcases List.mem_append.1 hx with hx | hx
  ·rcases List.mem_append.1 hx with hx | hx
   ·obtain ⟨a,ha,rfl⟩:=List.mem_map.1 hx
    exact m3 a ((List.mem_filter.1 ha).1)
   ·split at hx
    ·cases hx
    ·obtain rfl:=List.mem_singleton.1 hx
     exact m1
  ·split at hx
   ·cases hx
   ·obtain rfl:=List.mem_singleton.1 hx
    exact m2
 ·have:=oo ((hd.2 d hd').2)
  unfold maxLen;omega
 ·have h0:=(hv v hv').2.2.2
  have h6:=lY (fun s:aB=>s.Ga) 6 v.Gf fun s hs'=>yq v hv' s hs';have:v.Gf.length*6<=64*6:=tA _ h0;unfold bV;omega
 ·unfold maxLen
  exact (hi.st v hv' s hs').2.2.1 a ha
 ·have hf:=(hs v hv' s hs').fm
  have a1:=hf.l0;have a2:=hf.l1;have a3:=hf.ar;obtain ⟨st,hst⟩:=qP h4 v hv' s hs';exact ⟨Tcd,Tcd,qQ hst⟩
 ·obtain ⟨v,hv',hp⟩:=List.mem_flatMap.1 hp
  obtain ⟨s,hs',hp⟩:=List.mem_flatMap.1 hp;obtain ⟨st,hst⟩:=qP h4 v hv' s hs';have hr:=zZ (Dh h5 v hv' s hs');unfold aK at hp;split at hp
  ·rename_i ho
   obtain ⟨a,ha,rfl⟩:=List.mem_map.1 hp;have pS:=qQ hst ho a ha;have e2:=List.all_eq_true.1 hr.2.1 a ha;unfold fI at e2;have e1:=hr.1;unfold jw at e1;rw [eh,eL] at e1;have e3:=e1.1 a ha;rw [pS,nj] at e2 e3;obtain ⟨d,hd'⟩:=Option.isSome_iff_exists.1 e3;rw [hd'] at e2;simp only [eh,fk,Option.getD_some] at e2;have:=vu d (eV hd');simp only [aJ];omega
  ·cases hp
 ·have h6:=lY aW 384 g.F9 hpc
  have:=r2.2.1;have:g.F9.length*384<=32*384:=tA _ Tcd;unfold pieces;omega
end Go.Proofs.YtjdfihglehfelaaGreatDoor
namespace Go.Proofs.YtjdfihglehfelaaGreatDoor
open Go.Proofs.Tryz
open Go.RowKit Go.Maps Go.Shelf
variable {nm:ByteArray}{x:List (Int × Int)}{p:Int × Int}{ends:List (ByteArray × Int)}{n:Int}{l:List aR}{g:af}{r:aY}{d:az}{w w':World}{Bj Bd nc tc B k:Nat}{np jp tp:Option Addr}{nl jl:List ByteArray}{ok ok':Nat->Prop}{v:Value}
noncomputable def gF (g:af)(r:aY):List ByteArray:=if r.near.toList.isEmpty then [] else sP g r.near
def kR (g:af)(l:List ByteArray):List ByteArray:=l.flatMap fun nm=>((bH g.Gb nm).getD gT).tags
def jV (d:az):Bool:=!d.closed&&!d.missing
def jG (tag:ByteArray)(d:az):Bool:=tag.toList.isEmpty||bI d.tags tag
def nN (near:List ByteArray)(p:Int)(d:az):Bool:=!(p == 2)||bI near d.name
def vE (near tags:List ByteArray)(p:Int)(d:az):Bool:=!(p == 3)||(bI near d.name||d.tags.any (bI tags))
def iD (near tags:List ByteArray)(r:aY)(d:az):Bool:=jV d&&(jG r.tag d&&(nN near r.Gg d&&vE near tags r.Gg d))
noncomputable def nD (g:af)(r:aY)(d:az):Bool:=iD (gF g r) (kR g (gF g r)) r d
def xy (g:af)(d:az)(n:Int):Prop:=(0<=n/\n<d.Gc)/\¬ Mem (fM d.name d.Gc (pieces g.F9)) n
def qN (s:aB):List (ByteArray × Int):=s.Ga.map fun a=>(a.on,a.start+iB s.kind s.length s.Ga.length)
def oZ (l:List aB):List (ByteArray × Int):=match l.getLast? with
 | some s=>if s.kind=1\/s.kind=2 then qN s else []
 | none=>[]
def jE (g:af)(nm:ByteArray):List (ByteArray × Int):=oZ ((aM g.F9 nm).getD eY).Gf
def su (nm:ByteArray)(e:ByteArray × Int)(x:List (Int × Int)):List (Int × Int):=x.filterMap fun r=>if e.1=nm/\r.1<=e.2/\e.2<r.1+r.2 then some (e.2,r.1+r.2 - e.2) else none
def mQ (ends:List (ByteArray × Int))(nm:ByteArray)(x:List (Int × Int)):List (Int × Int):=ends.flatMap fun e=>su nm e x
def uM (r:aY):Bool:=r.Gg == 1&&!r.near.toList.isEmpty
def kI (g:af)(r:aY)(d:az)(n:Int):Prop:=nD g r d=true/\if uM r=true then ∃ x,iE x (xy g d)/\Mem (mQ (jE g r.near) d.name x) n else xy g d n
theorem CY {e:ByteArray × Int}(h:p∈su nm e x):e.1=nm/\p.1=e.2/\∃ r∈x,r.1<=e.2/\e.2<r.1+r.2/\p.2=r.1+r.2 - e.2:=by
 obtain ⟨r,hr,hp⟩:=List.mem_filterMap.1 h;split at hp
 ·rename_i c
  injection hp with hp
  subst hp;exact ⟨c.1,rfl,r,hr,c.2.1,c.2.2,rfl⟩
 ·cases hp
theorem Dl (h:p∈mQ ends nm x):∃ e∈ends,e.1=nm/\p.1=e.2/\∃ r∈x,r.1<=e.2/\e.2<r.1+r.2/\p.2=r.1+r.2 - e.2:=by
 obtain ⟨e,he,hp⟩:=List.mem_flatMap.1 h;exact ⟨e,he,CY hp⟩
theorem Iq (h:Mem (mQ ends nm x) n):Mem x n:=by
 obtain ⟨p,hp,h1,h2⟩:=h;obtain ⟨e,-,-,h3,r,hr,h4,h5,h6⟩:=Dl hp;exact ⟨r,hr,Tcd,Tcd⟩
theorem xS (h:∀ p∈x,0<=p.1/\1<=p.2/\p.1+p.2<=1073741824):dI (mQ ends nm x)=true:=by
 unfold dI;rw [eL];intro p hp;obtain ⟨e,-,-,h3,r,hr,h4,h5,h6⟩:=Dl hp;have:=h r hr;simp only [nT,eh,fk];omega
theorem wT (nm:ByteArray)(e:ByteArray × Int)(x:List (Int × Int)):(su nm e x).length<=x.length:=List.length_filterMap_le _ _
theorem Dj (ends:List (ByteArray × Int))(nm:ByteArray)(x:List (Int × Int)):(mQ ends nm x).length<=ends.length*x.length:=lY _ _ _ fun e _=>wT nm e x
theorem Cc (s:aB):(qN s).length<=s.Ga.length:=by
 unfold qN;rw [fW];exact bk _
theorem mem_of_getLast? {α:Type}:∀ {l:List α} {x:α},l.getLast?=some x->x∈l
 | [],_,h=>by cases h
 | a :: l,x,h=>by
  rw [List.getLast?_eq_getElem?] at h;exact ct h
theorem Bu {l:List aB}{m:Nat}(h:∀ s∈l,s.Ga.length<=m):(oZ l).length<=m:=by
 unfold oZ;split
 ·rename_i s hs
  split
  ·exact cA (Cc s) (h s (mem_of_getLast? hs))
  ·simp
 ·simp
theorem GG (h:kI g r d n):xy g d n:=by
 obtain ⟨-,h⟩:=h;split at h
 ·obtain ⟨x,hx,hm⟩:=h
  exact (hx.2 n).1 (Iq hm)
 ·exact h
theorem D6 (h:kP g r=0):(pM g).2=0/\yZ g r=0:=by
 unfold kP at h;split at h
 ·rename_i hm
  exact ⟨hm,h⟩
 ·rename_i hm
  exact absurd h hm
def iI (b:Bool)(w:World)(e:Ending)(w':World):Prop:=e=.returned (.bool b)/\Below w.heap.size w w'
def Tan (x0:aY)(x1:Nat)(x2:Option Addr)(x3:Nat)(x4:Nat)(x5:Option Addr)(x6:Nat):Taa #[.int .i64 x0.Gi,.int .i64 x0.Gh,.int .i64 x0.Gc,.int .i64 x0.Gg,.string x0.tag,.string x0.near,.string x0.sep,.slice x2 x1 x3,.slice x5 x4 x6]:=⟨⟩
structure BC (w:World)(Bj Bd:Nat)(r:aY)(np jp:Option Addr)(nc jc:Nat)(nl jl:List ByteArray)(d:az)(tp:Option Addr)(tc:Nat):Prop where
 j:w.heap[Bj]?=some (.cells (Tan r nl.length np nc jl.length jp jc) 99 (0,0))
 d:w.heap[Bd]?=some (.cells (Tai d tp tc) 47 (0,0))
theorem BC.jc {jc:Nat}(h:BC w Bj Bd r np jp nc jc nl jl d tp tc)(i:Nat)(z:Value)(hz:[.int .i64 r.Gi,.int .i64 r.Gh,.int .i64 r.Gc,.int .i64 r.Gg,.string r.tag,.string r.near,.string r.sep,.slice np nl.length nc,.slice jp jl.length jc][i]?=some z):w.cell? (Bj,i)=some z:=by
 simp only [World.cell?,h.j];simpa using hz
theorem BC.dc {jc:Nat}(h:BC w Bj Bd r np jp nc jc nl jl d tp tc)(i:Nat)(z:Value)(hz:[.string d.name,.int .u64 d.id,.int .i64 d.first,.int .i64 d.Gc,.bool d.closed,.bool d.missing,.slice tp d.tags.length tc][i]?=some z):w.cell? (Bd,i)=some z:=by
 simp only [World.cell?,h.d];simpa using hz
theorem nM (w:World)(r:aY)(np jp:Option Addr)(nc jc:Nat)(nl jl:List ByteArray)(d:az)(tp:Option Addr)(tc:Nat) :
  BC ((w.alloc (.cells (Tan r nl.length np nc jl.length jp jc) 99)).alloc (.cells (Tai d tp tc) 47)) w.heap.size (w.heap.size+1) r np jp nc jc nl jl d tp tc /\
   Below w.heap.size w ((w.alloc (.cells (Tan r nl.length np nc jl.length jp jc) 99)).alloc (.cells (Tai d tp tc) 47)):=by
 have hA1:=ae w (.cells (Tan r nl.length np nc jl.length jp jc) 99);have hA2:=ae (w.alloc (.cells (Tan r nl.length np nc jl.length jp jc) 99)) (.cells (Tai d tp tc) 47);have hN1:=b9 w (.cells (Tan r nl.length np nc jl.length jp jc) 99);have hN2:=b9 (w.alloc (.cells (Tan r nl.length np nc jl.length jp jc) 99)) (.cells (Tai d tp tc) 47);rw [cW] at hN2;exact ⟨⟨(hA2.block _ (aq hN1)).trans hN1,hN2⟩,hA1.trans (hA2.mono hA1.size)⟩
theorem AX (r:aY)(np jp:Option Addr)(nc jc:Nat)(nl jl:List ByteArray)(d:az)(tp:Option Addr)(tc:Nat)(w:World) :
  Calls prog 51 #[.agg (Tan r nl.length np nc jl.length jp jc),.agg (Tai d tp tc)] w (iI (jV d) w):=by
 obtain ⟨hat,hb⟩:=nM w r np jp nc jc nl jl d tp tc;have Fm:=aa hat;clear hat;have HB:=aa hb;clear hb;have HR:Hid (jV d=(!d.closed&&!d.missing)):=aa rfl;go_enter func51,ntmps51
 go_upto_region 1 with (fail)
 generalize hW1:World.alloc (World.alloc w _) _=W1 at *;clear hW1;have dL:=Fm.o.dc;obtain ⟨d0,d1,d2,d3,d4,d5,d6⟩:=se dL;clear dL;cases hc:d.closed with
 | true =>
  rw [hc] at d4 HR;go_wp2;go_ret;exact ⟨Tcl,HB.o⟩
 | false =>
  rw [hc] at d4 HR;cases hm:d.missing with
  | true =>
   rw [hm] at d5 HR;go_wp2;go_ret;exact ⟨Tcl,HB.o⟩
  | false =>
   rw [hm] at d5 HR;go_wp2;go_ret;exact ⟨Tcl,HB.o⟩
theorem zl (r:aY)(np jp:Option Addr)(nc jc:Nat)(nl jl:List ByteArray)(d:az)(tp:Option Addr)(tc:Nat)(w:World)(ht:ck aF 1 ok w [.slice tp d.tags.length tc] d.tags)(nt:d.tags.length<=1000000) :
  Calls prog 52 #[.agg (Tan r nl.length np nc jl.length jp jc),.agg (Tai d tp tc)] w (iI (jG r.tag d) w):=by
 obtain ⟨hat,hb⟩:=nM w r np jp nc jc nl jl d tp tc;have Fm:=aa hat;clear hat;have HB:=aa hb;clear hb;have HT:=aa ((ck.moves aF.moves).mv (Mv.of HB.o) ht);clear ht;have HR:Hid (jG r.tag d=(r.tag.toList.isEmpty||bI d.tags r.tag)):=aa rfl;go_enter func52,ntmps52
 go_upto_region 1 with (fail)
 generalize hW1:World.alloc (World.alloc w _) _=W1 at *;clear hW1;have dL:=Fm.o.dc;have d6:=dL 6 _ rfl;clear dL;have jL:=Fm.o.jc;have j4:=jL 4 _ rfl;clear jL;have HC:=aa (eT d.tags r.tag _ W1 HT.o nt);clear HT;cases PE:r.tag.toList.isEmpty with
 | true =>
  rw [PE] at HR;go_wp2;go_ret;exact ⟨Tcl,HB.o⟩
 | false =>
  rw [PE] at HR
  go_wp2_with (refine HC.o.mono ?_;rintro e w5 ⟨rfl,rfl⟩)
  go_ret;exact ⟨Tcl,HB.o⟩
theorem yM (r:aY)(np jp:Option Addr)(nc jc:Nat)(nl jl:List ByteArray)(d:az)(tp:Option Addr)(tc:Nat)(w:World)(hn:ck aF 1 ok w [.slice np nl.length nc] nl)(zr:nl.length<=1000000) :
  Calls prog 53 #[.agg (Tan r nl.length np nc jl.length jp jc),.agg (Tai d tp tc)] w (iI (nN nl r.Gg d) w):=by
 obtain ⟨hat,hb⟩:=nM w r np jp nc jc nl jl d tp tc;have Fm:=aa hat;clear hat;have HB:=aa hb;clear hb;have HT:=aa ((ck.moves aF.moves).mv (Mv.of HB.o) hn);clear hn;have HR:Hid (nN nl r.Gg d=(!(r.Gg == 2)||bI nl d.name)):=aa rfl;go_enter func53,ntmps53
 go_upto_region 1 with (fail)
 generalize hW1:World.alloc (World.alloc w _) _=W1 at *;clear hW1;have dL:=Fm.o.dc;have d0:=dL 0 _ rfl;clear dL;have jL:=Fm.o.jc;have j3:=jL 3 _ rfl;have j7:=jL 7 _ rfl;clear jL;have HC:=aa (eT nl d.name _ W1 HT.o zr);clear HT;cases hp:(r.Gg == 2) with
 | false =>
  have hpn:(r.Gg != 2)=true:=by simpa [bne] using hp
  rw [hp] at HR;go_wp2;go_ret;exact ⟨Tcl,HB.o⟩
 | true =>
  have hpn:(r.Gg != 2)=false:=by simpa [bne] using hp
  rw [hp] at HR
  go_wp2_with (refine HC.o.mono ?_;rintro e w5 ⟨rfl,rfl⟩)
  go_ret;exact ⟨Tcl,HB.o⟩
theorem wL (x:ByteArray)(Bj:Nat)(jp:Option Addr)(jc:Nat)(jl:List ByteArray)(w:World)(h8:w.cell? (Tab Bj 8)=some (.slice jp jl.length jc))(hj:ck aF 1 ok w [.slice jp jl.length jc] jl)(vt:jl.length<=1000000) :
  Calls prog 105 #[.string x,.pointer (some Bj)] w fun e w'=>e=.returned (.bool (bI jl x))/\w=w':=by
 have HC:=aa (eT jl x _ w hj vt);clear hj;go_enter func105,ntmps105
 go_wp2_with (refine HC.o.mono ?_;rintro e w5 ⟨rfl,rfl⟩)
 go_ret;exact ⟨rfl,rfl⟩
theorem pG (l:List ByteArray)(v:Value)(Bj:Nat)(jp:Option Addr)(jc:Nat)(jl:List ByteArray)(w:World)(h:ck aF 1 ok w [v] l)(hl:l.length<=1000000)(h8:w.cell? (Tab Bj 8)=some (.slice jp jl.length jc))(hj:ck aF 1 ok' w [.slice jp jl.length jc] jl)(vt:jl.length<=1000000) :
  Calls prog 162 #[v,.func (.func 105) #[] #[.pointer (some Bj)]] w fun e w'=>(∃ r:Int,e=.returned (.int .i64 r)/\decide (0<=r)=l.any (bI jl))/\w=w':=by
 obtain ⟨p,cap,rfl,hc1,hc2⟩:=h.cap;have HH:=aa h;clear h;have HC:=aa (fun x=>wL (ok:=ok') x Bj jp jc jl w h8 hj vt);clear h8 hj vt;go_enter func162,ntmps162;go_wp2
 go_loop [8,5] (fun i _=>∃ k:Nat,k<=l.length/\i=.int .i64 k/\(l.take k).any (bI jl)=false) (fun i _=>l.length - (intOf i).toNat)
 case atStart=>exact ⟨0,cg _,rfl,rfl⟩
 case round =>
  obtain ⟨k,hk,rfl,hall⟩:=hrel;have cE:=aa hall;clear hall
  by_cases hlt:k<l.length
  ·obtain ⟨y,hy⟩:=aj l k hlt
   obtain ⟨b,off,us,rfl,gR,cX,ez,eE,hcv⟩:=HH.o.elem hy;obtain rfl:us=_:=eE;have q0:=hcv 0 _ rfl;rw [fp,fg] at q0;have Tc:Hid ((l.take (k+1)).any (bI jl)=bI jl y):=aa (by rw [take_snoc' l k y hy,rj,cE.o];simp);have AE:Hid (bI jl y=true->l.any (bI jl)=true):=aa fun h=>List.any_eq_true.2 ⟨y,ct hy,h⟩;clear hy cE hcv ez;have Us:=aa (HC.o y);cases hs:bI jl y with
   | true =>
    rw [hs] at Us;have HR:=aa (AE.o hs);clear hs
    go_wp2_with (refine Us.o.mono ?_;rintro e w5 ⟨rfl,rfl⟩)
    go_ret;exact ⟨⟨k,rfl,by rw [HR.o];simp⟩,rfl⟩
   | false =>
    rw [hs] at Us;have HR:=aa (Tc.o.trans hs);clear hs
    go_wp2_with (refine Us.o.mono ?_;rintro e w5 ⟨rfl,rfl⟩)
    go_round
    case rel=>exact ⟨k+1,Tcd,Tch,HR.o⟩
    case measure=>simp [intOf];omega
  exact TbF
theorem mg (l:List ByteArray)(v:Value)(Bj:Nat)(jp:Option Addr)(jc:Nat)(jl:List ByteArray)(w:World)(h:ck aF 1 ok w [v] l)(hl:l.length<=1000000)(h8:w.cell? (Tab Bj 8)=some (.slice jp jl.length jc))(hj:ck aF 1 ok' w [.slice jp jl.length jc] jl)(vt:jl.length<=1000000) :
  Calls prog 104 #[v,.func (.func 105) #[] #[.pointer (some Bj)]] w fun e w'=>e=.returned (.bool (l.any (bI jl)))/\w=w':=by
 go_enter func104,ntmps104
 go_wp2_with fail
 refine (pG (ok:=ok) (ok':=ok') l v Bj jp jc jl w h hl h8 hj vt).mono ?_;exact TbK
theorem ym {ok2:Nat->Prop}(r:aY)(np jp:Option Addr)(nc jc:Nat)(nl jl:List ByteArray)(d:az)(tp:Option Addr)(tc:Nat)(w:World)(hn:ck aF 1 ok w [.slice np nl.length nc] nl)(zr:nl.length<=1000000)(ht:ck aF 1 ok' w [.slice tp d.tags.length tc] d.tags)(nt:d.tags.length<=1000000)(hj:ck aF 1 ok2 w [.slice jp jl.length jc] jl)(vt:jl.length<=1000000) :
  Calls prog 54 #[.agg (Tan r nl.length np nc jl.length jp jc),.agg (Tai d tp tc)] w (iI (vE nl jl r.Gg d) w):=by
 obtain ⟨hat,hb⟩:=nM w r np jp nc jc nl jl d tp tc;have Fm:=aa hat;clear hat;have HB:=aa hb;clear hb;have HN:=aa ((ck.moves aF.moves).mv (Mv.of HB.o) hn);clear hn;have HT:=aa ((ck.moves aF.moves).mv (Mv.of HB.o) ht);clear ht;have HJ:=aa ((ck.moves aF.moves).mv (Mv.of HB.o) hj);clear hj;have HR:Hid (vE nl jl r.Gg d=(!(r.Gg == 3)||(bI nl d.name||d.tags.any (bI jl)))):=aa rfl;go_enter func54,ntmps54
 go_upto_region 1 with (fail)
 generalize hW1:World.alloc (World.alloc w _) _=W1 at *;clear hW1;have dL:=Fm.o.dc;have d0:=dL 0 _ rfl;have d6:=dL 6 _ rfl;clear dL;have jL:=Fm.o.jc;have j3:=jL 3 _ rfl;have j7:=jL 7 _ rfl;have j8:=jL 8 _ rfl;clear jL;have HC:=aa (eT nl d.name _ W1 HN.o zr);have HD:=aa (mg d.tags _ w.heap.size jp jc jl W1 HT.o nt j8 HJ.o vt);clear HN HT HJ j8;cases hp:(r.Gg == 3) with
 | false =>
  have hpn:(r.Gg != 3)=true:=by simpa [bne] using hp
  rw [hp] at HR;go_wp2;go_ret;exact ⟨Tcl,HB.o⟩
 | true =>
  have hpn:(r.Gg != 3)=false:=by simpa [bne] using hp
  rw [hp] at HR;cases hh:bI nl d.name with
  | true =>
   rw [hh] at HC HR
   go_wp2_with (refine HC.o.mono ?_;rintro e w5 ⟨rfl,rfl⟩)
   go_ret;exact ⟨Tcl,HB.o⟩
  | false =>
   rw [hh] at HC HR
   go_wp2_with (first | (refine HC.o.mono ?_;rintro e w5 ⟨rfl,rfl⟩) | (refine HD.o.mono ?_;rintro e w5 ⟨rfl,rfl⟩))
   go_ret;exact ⟨Tcl,HB.o⟩
def iC (B:Nat)(w:World)(v:Value)(l:List aR):Prop:=bF aQ 3 60 B (fun _=>False) w v l
theorem iC.nil (B:Nat)(w:World):iC B w (.slice none 0 0) []:=⟨[],gS _ _ _ 3,rfl⟩
theorem iC.keep (h:iC B w v l)(hz:w.heap.size<=w'.heap.size)(hk:∀ k,v.ownBlock=some k->w'.heap[k]?=w.heap[k]?):iC B w' v l:=by
 obtain ⟨cs,ho,hf⟩:=h;exact ⟨cs,aC ho hk,Flat.moves aQ.moves ⟨hz,fun b _ f=>f.elim⟩ _ _ hf⟩
theorem iC.below (h:iC B w v l)(hb:Below w.heap.size w w'):iC B w' v l:=by
 refine h.keep hb.size fun k e=>hb.block k ?_;obtain ⟨cs,ho,_⟩:=h;exact (ho.lt k e).2
theorem iC.notSeg {cs:Array Value}{z:Nat × Nat}(h:iC B w v l)(hk:w.heap[k]?=some (.cells cs 79 z)):v.ownBlock≠some k:=fun e=>by
 obtain ⟨_,ho,_⟩:=h;rcases ho.2 with ⟨rfl,_⟩ | ⟨g,cap,cur,rfl,_,gA,_⟩
 ·cases e
 ·obtain rfl:g=k:=by injection e
  rw [hk] at gA;injection gA with gA
  injection gA with _ gA _
  cases gA
theorem iC.ge (h:iC B w v l)(e:v.ownBlock=some k):B<=k/\k<w.heap.size:=by
 obtain ⟨cs,ho,_⟩:=h;exact ho.lt k e
theorem iC.mono {B':Nat}(h:iC B w v l)(hB:B'<=B):iC B' w v l:=by
 obtain ⟨cs,⟨h1,h2⟩,hf⟩:=h;refine ⟨cs,⟨h1,?_⟩,hf⟩;exact Tb9
def kJ (s:aB)(a:aR):aR:=⟨false,a.on,a.start+iB s.kind s.length s.Ga.length⟩
theorem rF (Q:Exit->Act->World->Prop){c0 c1 c2 c3 c4 c5 c6 c9 c11 c12 c13 c14 c15 c16 c17 c18 c19 c20 c21 c22 c23 c24 c25 c26 c27 c28 c29 c30 c31 c32 c33 c34 c35 c36 c37 c38 c39 c40 c41 c42 c43 c44 c45 c46 c47 c48 c49 c50 c51 c52 c53 c54 c55 c56 c57 c58 c59:Value}(w:World)(B Bs Ba:Nat)(ap eN:Option Addr)(ac eR:Nat)(s:aB)(a:aR)(v8:Value)(l:List aR)
  (hB:B<=w.heap.size) (Tk:s.Ga.length<=1000) (Tl:l.length<=100000) (hlen:0<=s.length/\s.length<=1000000) (hst:0<=a.start/\a.start<=1000000)
  (hs:w.heap[Bs]?=some (.cells (Tad s ap ac eN eR) 79 (0,0))) (Sr:Ba<w.heap.size) (ha1:w.cell? (Tab Ba 1)=some (.string a.on)) (ha2:w.cell? (Tab Ba 2)=some (.int .i64 a.start))
  (hO:iC B w v8 l)
  (HK:Hid (∀ (v':Value) (w':World) (u47 u48 u49 u50 u51 u52 u53 u54 u55 u56 u57:Value),iC B w' v' (l++[kJ s a])->Below B w w'->w'.heap[Bs]?=w.heap[Bs]?->Q .normal ⟨#[c0,c1,c2,c3,c4,c5,c6,.pointer (some Bs),v',c9,.pointer (some Ba),c11,c12,c13,c14,c15,c16,c17,c18,c19,c20,c21,c22,c23,c24,c25,c26,c27,c28,c29,c30,c31,c32,c33,c34,c35,c36,c37,c38,c39,c40,c41,c42,c43,c44,c45,c46,u47,u48,u49,u50,u51,u52,u53,u54,u55,u56,u57,c58,c59],[]⟩ w'))
  (hQ:∀ c (a:Act) (d:Tmp) (v:Value) w,Q (.panic c) (a.put (some d) v) w->Q (.panic c) a w) :
  (Ai Tryz.f109 12).wp prog Q ⟨#[c0,c1,c2,c3,c4,c5,c6,.pointer (some Bs),v8,c9,.pointer (some Ba),c11,c12,c13,c14,c15,c16,c17,c18,c19,c20,c21,c22,c23,c24,c25,c26,c27,c28,c29,c30,c31,c32,c33,c34,c35,c36,c37,c38,c39,c40,c41,c42,c43,c44,c45,c46,c47,c48,c49,c50,c51,c52,c53,c54,c55,c56,c57,c58,c59],[]⟩ w:=by
 conv=>arg 2;whnf
 have GF:=aq hs
 have sL:∀ (j:Nat) (z:Value),[.int .i64 s.start,.int .i64 s.length,.int .i64 s.kind,.slice ap s.Ga.length ac,.int .i64 s.chunk,.slice eN s.stale.length eR,.string s.log,.string s.pool,.int .i64 s.device,.int .i64 s.mode,.int .i64 s.done][j]?=some z->∀ q:fo,(ext w q).cell? ⟨Bs,j,none⟩=some z:=fun j z hz=>aG GF (by
  simp only [World.cell?,hs]
  simpa using hz)
 obtain ⟨s0,s1,s2,s3,s4,s5,s6,s7,s8,s9,s10⟩:=IC sL;have a1:=aG Sr ha1;have a2:=aG Sr ha2;have HO:=aa hO;clear hO;have HS:=aa hs;clear hs;have hlen1:=hlen.1;have hlen2:=hlen.2;have hst1:=hst.1;have hst2:=hst.2
 have he0:0<=iB s.kind s.length s.Ga.length:=by
  unfold iB;split
  ·exact lz hlen1 Tcd
  ·exact hlen1
 have he1:iB s.kind s.length s.Ga.length<=1000000:=by
  unfold iB;split
  ·exact Int.le_trans (mS _ hlen1) hlen2
  ·exact hlen2
 obtain ⟨i0,hi,hz0,hz1,hz2⟩:=ei kL;have HI:=aa hi;clear hi;have H0:=aa hz0;clear hz0;have H1:=aa hz1;clear hz1;have H2:=aa hz2;clear hz2;have HEA:Hid (kJ s a=⟨false,a.on,a.start+iB s.kind s.length s.Ga.length⟩):=aa rfl;have Ss:=aa (fun w':World=>ji s.start s.length s.kind s.chunk s.device s.mode s.done ap eN s.Ga.length ac s.stale.length eR s.log s.pool w' hlen1 Tcd Tcd);generalize hex:iB s.kind s.length s.Ga.length=ex at *;have hwr:IntKind.i64.wrap (a.start+ex)=a.start+ex:=dy _ Tcd;clear sL ha1 ha2 hlen hst hex
 (refine lG _ 8 Tcf rfl rfl Tcf Tcf (fun _ _ _ _ h=>hQ _ _ _ _ _ h) (by go_simp;rfl) ?_;simp only [List.take_succ_cons,iv,cQ,cL])
 repeat (go_big_quiet_step ((go_at_call 144;exact iH (Ss.o _))))
 with_reducible refine fR ?_
 intro wq ia;have kq:=dY ia;clear ia s0 s1 s2 s3 s4 s5 s6 s7 s8 s9 s10 a1 a2 Ss;have hO2:=HO.o.below kq;have G2:=ae wq (.cells #[.bool false,.string a.on,.int .i64 (a.start+ex)] 60);have hO3:=hO2.below G2;have HO3:=aa hO3;have pL:=aa G2;have LX:=aa kq;have PF:=cA hB kq.size;clear hO2 hO3 G2 kq
 go_wp2_with (at_builtin;refine dX aQ.moves underlying57 HI.o H0.o H1.o H2.o rfl Tcg Tcg rfl _ _ rfl B (fun _=>False) v8 l ⟨false,a.on,a.start+ex⟩ rfl HO3.o wq.heap.size 1 [.bool false,.string a.on,.int .i64 (a.start+ex)] rfl rfl rfl ?d3 ?d4 ?d5 ?d6 (fun _ _ f=>f) ?_)
 all_goals first | (case d3=>(simp [Value.oneCell'])) | (case d4=>(intro j y hy;exact aD rfl TcA)) | (case d5=>omega) | (case d6=>omega) | (case d6=>simp only [cW];omega) | skip
 intro gb cap w3 hp;have CT:∀ j,j<w.heap.size->v8.ownBlock≠some j->w3.heap[j]?=w.heap[j]?:=fun j hj hne=>(hp.grown.block j (cC hj (cA LX.o.size pL.o.size)) (fun e=>hne e.symm)).trans ((pL.o.block j (cC hj LX.o.size)).trans (LX.o.block j hj));have jn:Below B w w3:=((LX.o.mono hB).trans (pL.o.mono PF)).grown hp.grown (by simp only [cW];omega) (fun j e=>(HO3.o.ge e).1);have hS:=CT Bs GF (HO.o.notSeg HS.o);have Qt:=hp.own;rw [<- HEA.o] at Qt;have HOW:=aa Qt;have PG:=aa jn;have Mx:=aa hS;clear hp Qt jn hS CT;go_wp2;exact HK.o _ _ _ _ _ _ _ _ _ _ _ _ _ HOW.o PG.o Mx.o
def D7 (w:World)(l:List (ByteArray × Int))(e:Ending)(w':World):Prop:=∃ v,e=.returned v/\iC w.heap.size w' v (l.map fun x=>⟨false,x.1,x.2⟩)/\Below w.heap.size w w'
theorem yg {l:List aB}(h:l=[]):oZ l=[]:=by subst h;rfl
theorem Dn {l:List aB}{s:aB}(hl:0<l.length)(h:l[l.length - 1]?=some s):oZ l=if s.kind=1\/s.kind=2 then qN s else []:=by
 unfold oZ;rw [List.getLast?_eq_getElem?,h]
theorem TaW {p:Prop}(h:p:=by
 go_upto_region 9 with (fail)
 clear s3
 go_loopw [8,40] (fun lv i wr=>∃ k:Nat,k<=s.Ga.length/\i=.int .i64 k/\iC W4.heap.size wr lv ((s.Ga.take k).map (kJ s))/\Below W4.heap.size W4 wr) (fun _ i _=>s.Ga.length - (intOf i).toNat)
 case atStart=>exact ⟨0,cg _,rfl,iC.nil _ _,bj _ _⟩
 case round =>
  obtain ⟨k,hk,rfl,hown,hB⟩:=hrel;have HOW:=aa hown;clear hown;have HB:=aa hB;clear hB
  by_cases hlt:k<s.Ga.length
  ·obtain ⟨x,hx⟩:=aj s.Ga k hlt
   obtain ⟨b3,off3,us3,hsp3,B7,wa,pT,J8,hcv3⟩:=ya.o.elem hx;subst hsp3;obtain rfl:us3=_:=J8;have TF:wr.heap[b3]?=W4.heap[b3]?:=HB.o.block b3 wa;obtain ⟨q0,q1,q2⟩:=Mn TF hcv3;have HTS:Hid ((s.Ga.take (k+1)).map (kJ s)=(s.Ga.take k).map (kJ s)++[kJ s x]):=aa (by rw [take_snoc' s.Ga k x hx,gl];rfl);have pS:=Oc.o x (ct hx);have hst:=sY.o x (ct hx);clear hx hcv3 pT TF;rw [pS] at q0;have mA:=HB.o.size;have hA:=ae wr (.cells (Taz x) 60);have yb:=aa (b9 wr (.cells (Taz x) 60));have cm:=aa (HB.o.trans (hA.mono mA));have HOW2:=aa (HOW.o.below hA);clear hA
   go_upto_region 11 with (fail)
   clear q0 q1 q2;generalize hW5:World.alloc wr _=W5 at *;generalize NU:wr.heap.size=Ba at *;clear hW5 HB HOW;obtain ⟨a0,a1,a2⟩:=UN (cr yb.o)
   go_upto_region 12 with (fail)
   refine rF _ W5 W4.heap.size Bs Ba (some ⟨b3,off3,none⟩) eN ac eR s x _ _ cm.o.size Tk (by rw [fW,ey];omega) Ky.o hst ((cm.o.block _ (aq lj.o)).trans lj.o) (aq yb.o) a1 a2 HOW2.o (aa ?_) ?hQ
   case hQ=>exact fun _ _ _ _ _ h=>h
   intro v' w' u47 u48 u49 u50 u51 u52 u53 u54 u55 u56 u57 ho' hb' hs';have HO':=aa ho';clear ho';have Ks:=aa (cm.o.trans hb');clear hb' hs' a0 a1 a2;go_wp2;go_roundw
   case rel=>exact ⟨k+1,Tcd,Tch,by rw [HTS.o];exact HO'.o,Ks.o⟩
   case measure=>simp [intOf];omega
  ·obtain rfl:k=s.Ga.length:=by omega
   rw [cI] at HOW;have Ng:Hid ((jE g nm).map (fun x=>(⟨false,x.1,x.2⟩:aR))=s.Ga.map (kJ s)):=aa (by rw [qT.o];unfold qN;rw [List.map_map];rfl);go_wp2;go_ret;exact ⟨_,rfl,by rw [Ng.o];exact HOW.o.mono RB.o,eI.o.trans (HB.o.mono RB.o)⟩):p:=h
theorem Cr (g:af)(a:bN)(nm:ByteArray)(w:World)(hr:ck aN 6 ok w [.slice a.vp g.F9.length a.vc] g.F9)(hz:JT g)(ht:qx g.F9)(CH:∀ v∈g.F9,∀ s∈v.Gf,fP s->∀ a∈s.Ga,0<=a.start/\a.start<=1000000) :
  Calls prog 109 #[.agg (Tae g a),.string nm] w (D7 w (jE g nm)):=by
 have HG:=aa hr;clear hr;have HZ:=aa hz;clear hz;have hA1:=ae w (.cells (Tae g a) 31);have cU:=aa hA1;clear hA1;have CN:=aa (b9 w (.cells (Tae g a) 31))
 have gL:=cr CN.o
 go_enter func109,ntmps109
 go_upto_region 1 with (fail)
 generalize hW1:World.alloc w _=W1 at *;obtain ⟨g0,g1,g2,g3,g4,g5,g6,g7,g8⟩:=xr gL;clear gL hW1;have KQ:=aa (fA (ok:=fun b=>ok b/\b<w.heap.size) g a nm W1 ((ck.moves aN.moves).mv ⟨cU.o.size,fun b hb ho=>⟨⟨ho,hb⟩,cU.o.block b hb⟩⟩ HG.o) HZ.o.vl HZ.o.vz)
 go_wp2_with fail
 clear g0 g1 g2 g3 g4 g5 g6 g7 g8;refine KQ.o.mono ?_;clear KQ;rintro e w2 ⟨u,rfl,sA,hb2⟩
 have eE:((aM g.F9 nm).getD eY).Gf.length<=1000/\∀ s∈((aM g.F9 nm).getD eY).Gf,((0<=s.length/\s.length<=1000000)/\s.Ga.length<=1000/\(fP s->∀ a∈s.Ga,a.vol=false))/\(fP s->∀ a∈s.Ga,0<=a.start/\a.start<=1000000):=by
  cases hf:aM g.F9 nm with
  | none=>simp [eY]
  | some v =>
   have hv:=eV hf;exact ⟨(ht v hv).1,fun s hs=>⟨(ht v hv).2 s hs,CH v hv s hs⟩⟩
 have Th:=aa eE.2;have mb:=eE.1;have PH:Hid (jE g nm=oZ ((aM g.F9 nm).getD eY).Gf):=aa rfl;generalize (aM g.F9 nm).isSome=YW at *;generalize hv:(aM g.F9 nm).getD eY=v at *;have cm:=aa (cU.o.trans (hb2.mono cU.o.size));obtain ⟨tv,sv,rfl,ew,fL⟩:=sA;obtain ⟨tp,tc,rfl,_,_⟩:=ew.cap;obtain ⟨sp,sc,rfl,hsc1,hsc2⟩:=fL.cap;clear ew hb2 hv eE ht CH;have hA:=ae w2 (.cells (Tah v tp tc sp sc) 55);have zv:=aa (b9 w2 (.cells (Tah v tp tc sp sc) 55));have cJ:=aa (cm.o.trans (hA.mono cm.o.size));have XM:=aa ((ck.moves bC.moves).mv (Mv.of hA) fL);clear fL hA cm
 go_upto_region 2 with (fail)
 generalize hW3:World.alloc w2 _=W3 at *;generalize XU:w2.heap.size=Bv at *;clear hW3;have v5:=cr zv.o 5 _ rfl
 by_cases h0:v.Gf.length=0
 ·have HE:Hid (oZ v.Gf=[]):=aa (yg (fX h0))
  go_wp2;go_ret;exact ⟨_,rfl,by rw [PH.o,HE.o];exact iC.nil _ _,cJ.o⟩
 ·obtain ⟨s,hs⟩:=aj v.Gf (v.Gf.length - 1) Tcd
  have HE:=aa (Dn Tcd hs);obtain ⟨b,off,us,hsp,gR,cX,ez,eE,hcv⟩:=XM.o.elem hs;subst hsp;have Su:=aa (Th.o s (ct hs));obtain ⟨av,kp,rfl,gg,hst⟩:=eE;obtain ⟨ap,ac,rfl,_,_⟩:=gg.cap;obtain ⟨eN,eR,rfl,_,_⟩:=hst.cap;have cT:W3.heap[b]?=W3.heap[b]?:=rfl;obtain ⟨q0,q1,q2,q3,q4,q5,q6,q7,q8,q9,q10⟩:=Vn cT hcv;have YX:((v.Gf.length:Int) - 1)=((v.Gf.length - 1:Nat):Int):=by omega
  clear hs hcv ez cT hst Th;have hA:=ae W3 (.cells (Tad s ap ac eN eR) 79);have lj:=aa (b9 W3 (.cells (Tad s ap ac eN eR) 79));have eI:=aa (cJ.o.trans (hA.mono cJ.o.size));have ya:=aa ((ck.moves aQ.moves).mv (Mv.of hA) gg);clear gg hA cJ
  go_upto_region 4 with (fail)
  go_upto_region 5 with (fail)
  generalize hW4:World.alloc W3 _=W4 at *;generalize Yh:W3.heap.size=Bs at *;clear hW4 q0 q1 q2 q3 q4 q5 q6 q7 q8 q9 q10 v5;have s2:=cr lj.o 2 _ rfl;have s3:=cr lj.o 3 _ rfl
  by_cases hk:s.kind=1\/s.kind=2
  ·have qT:Hid (jE g nm=qN s):=aa (by rw [PH.o,HE.o,aw hk])
   have G0:fP s:=by rcases hk with q | q;exact .inl q;exact .inr (.inl q)
   have Oc:=aa (Su.o.1.2.2 G0);have sY:=aa (Su.o.2 G0);have Tk:=Su.o.1.2.1;have Ky:=aa Su.o.1.1;clear HE PH Su G0;have hup:∃ P:Prop,P:=⟨True,trivial⟩
   have key:(s.kind != 1)=false\/((s.kind != 1)=true/\(s.kind != 2)=false):=by
    rcases hk with q | q
    ·exact .inl (by simp [q])
    ·exact .inr ⟨by simp [q],by simp [q]⟩
   clear hk hup;have RB:Hid (w.heap.size<=W4.heap.size):=aa eI.o.size;rcases key with n1 | ⟨n1,n2⟩
   ·go_upto_region 8 with (fail)
    clear n1 s2
    exact TaW
   ·go_upto_region 8 with (fail)
    clear n1 n2 s2
    exact TaW
  ·have qT:Hid (jE g nm=[]):=aa (by rw [PH.o,HE.o,bh hk])
   have n1:(s.kind != 1)=true:=by simp;exact fun q=>hk (.inl q)
   have n2:(s.kind != 2)=true:=by simp;exact fun q=>hk (.inr q)
   clear hk;go_wp2;go_ret;exact ⟨_,rfl,by rw [qT.o];exact iC.nil _ _,eI.o⟩
end Go.Proofs.YtjdfihglehfelaaGreatDoor
