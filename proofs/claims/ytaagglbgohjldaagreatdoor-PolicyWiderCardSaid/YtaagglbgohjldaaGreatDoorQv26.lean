/- Lemmas: ModZf, PolS, PolB. -/
import Derived.Test.YtaagglbgohjldaaGreatDoorQv25
set_option maxRecDepth 100000
set_option maxHeartbeats 32000000
set_option linter.all false
namespace Go.Proofs.YtaagglbgohjldaaGreatDoor
open Go.Proofs.Tryz
open Go.RowKit Go.Maps Go.Shelf
theorem wK:∀ {l:List (ByteArray × Int)},(oW l).2=0->∀ x∈l,x.2=0
 | [],_,x,hx=>by cases hx
 | r :: l,h,x,hx=>by
  unfold oW at h;split at h
  ·rename_i hr;rcases List.mem_cons.1 hx with rfl | hx
   ·exact hr
   exact wK h x hx
  rename_i hr;exact absurd h hr
variable {g:af}
theorem Dg (h:(mchk g).2=0):(dZ g).2=0/\(dw g).2=0/\(dJ g).2=0/\(iP g).2=0/\(mY g).2=0/\(qG g).2=0/\(pE g).2=0/\(rY g).2=0:=by
 have:=wK h;exact ⟨this _ TcD,this _ TcD,this _ TcD,this _ TcD,this _ TcD,this _ TcD,this _ TcD,this _ TcD⟩
theorem Au {l:List ByteArray}(h:eP l=0):l.length<=8:=by
 unfold eP at h;split at h
 ·cases h
 omega
theorem zy (h:(dw g).2=0):∀ d∈g.Gb,d.tags.length<=8:=fun d hd=>by
 obtain ⟨j,hj⟩:=fc hd;have:=ll (i:=0) h j d hj;rw [eJ] at this;unfold pg at this;split at this
 ·cases this
 split at this
 ·cases this
 split at this
 ·cases this
 exact Au this
theorem qQ {ext:Int}{s:aB}{st:Int}(h:bJ ext s st=true):fP s->∀ a∈s.Ga,a.vol=false:=by
 intro ho a ha;cases hs:shapeOf s.kind with
 | none=>rw [jT hs] at h;cases h
 | some x =>
  have hx:x.F9=false:=by
   rcases ho with q | q | q <;> (rw [q] at hs;cases hs;rfl)
  rw [jP hs] at h;simp only [eh,fk] at h;have h5:=h.1.1.1.1.1.1.1.1.1.2;have:=List.all_eq_true.1 h5 a ha;unfold bT at this;rw [hx] at this;simp only [eh] at this;simpa using this.1
theorem lY {α β:Type}(f:α->List β)(m:Nat):∀ l:List α,(∀ x∈l,(f x).length<=m)->(l.flatMap f).length<=l.length*m
 | [],_=>by simp
 | x :: l,h=>by
  have h1:=h x (cG ..);have h2:=lY f m l fun y hy=>h y (kn _ hy);rw [lB,cD,cS,Oy];omega
theorem Cb (s:aB):(rQ s).length<=s.Ga.length+2:=by
 unfold rQ;rw [cD,cD,fW];have:=tk (fun a:aR=>a.vol) s.Ga;split <;> split <;> simp <;> omega
theorem rP:∀ {l:List az} {i:Nat} {D:az},(l.map (·.name)).Nodup->l[i]?=some D->bH l D.name=some D
 | [],_,_,_,h=>by cases h
 | x :: l,i,D,hn,h=>by
  rw [iu,List.nodup_cons] at hn;unfold bH;rw [List.find?_cons]
  match i,h with
  | 0,h =>
   obtain rfl:x=D:=by simpa using h
   simp
  | i+1,h =>
   have h':l[i]?=some D:=by simpa using h
   have:¬ x.name=D.name:=fun e=>hn.1 (e ▸ List.mem_map.2 ⟨D,ct h',rfl⟩);rw [cN this];exact rP hn.2 h'
structure E9 (g:af):Prop where
 nd:rT g
 dl:g.Gb.length<=8
 dt:∀ d∈g.Gb,d.tags.length<=8
 de:∀ d∈g.Gb,0<=d.Gc/\d.Gc<=4096
 df:∀ (i:Nat) (D:az),g.Gb[i]?=some D->bH g.Gb D.name=some D
 vl:g.F9.length<=32
 tm:qx g.F9
 ps:∀ p∈pieces g.F9,0<=p.start/\p.start<=4096
 pn:(pieces g.F9).length<=12288
 a6:∀ v∈g.F9,∀ s∈v.Gf,s.Ga.length<=6
theorem Fb (hi:NL g)(h:(mchk g).2=0):E9 g:=by
 obtain ⟨h1,h2,h3,h4,h5,-,-,-⟩:=Dg h;obtain ⟨r1,r2⟩:=iT h1;have hs:=mZ h4;have hv:=nH h3;have hd:=nG h2;have vu:∀ d∈g.Gb,0<=d.Gc/\d.Gc<=4096:=fun d hd'=>by
  have:=(hd.2 d hd').1;unfold jQ at this;omega
 have yq:∀ v∈g.F9,∀ s∈v.Gf,s.Ga.length<=6:=fun v hv' s hs'=>(hs v hv' s hs').fm.ar
 have hpc:∀ v∈g.F9,(aW v).length<=384:=fun v hv'=>by
  have h0:=(hv v hv').2.2.2;have h6:=lY (aK v.name) 6 v.Gf fun s hs'=>by
   have:=yq v hv' s hs';unfold aK;split
   ·rw [fW];exact this
   simp
  have:v.Gf.length*6<=64*6:=tA _ h0;unfold aW;omega
 refine ⟨⟨⟨hi.sz,fun v hv'=>by have:=(hv v hv').2.1;unfold maxLen;omega,fun v hv'=>?_,fun v hv' x hx=>?_,by have:=r2.2.1;omega⟩,fun d hd'=>?_,by have:=r2.1;omega,fun v hv'=>?_,fun v hv' s hs' a ha=>?_⟩,r2.1,zy h2,vu,fun i D hD=>rP hd.1 hD,r2.2.1,fun v hv'=>⟨by have:=(hv v hv').2.2.2;omega,fun s hs'=>?_⟩,fun p hp=>?_,?_,yq⟩
 ·have h0:=(hv v hv').2.2.2;have h6:=lY rQ 8 v.Gf fun s hs'=>by have:=yq v hv' s hs';have:=Cb s;omega
  have:v.Gf.length*8<=64*8:=tA _ h0;unfold kY;omega
 ·obtain ⟨s,hs',hx⟩:=List.mem_flatMap.1 hx;obtain ⟨m1,m2,m3,m4⟩:=hi.st v hv' s hs';unfold maxLen;unfold rQ at hx;rcases List.mem_append.1 hx with hx | hx
  ·rcases List.mem_append.1 hx with hx | hx
   ·obtain ⟨a,ha,rfl⟩:=List.mem_map.1 hx;exact m3 a ((List.mem_filter.1 ha).1)
   split at hx
   ·cases hx
   obtain rfl:=List.mem_singleton.1 hx;exact m1
  split at hx
  ·cases hx
  obtain rfl:=List.mem_singleton.1 hx;exact m2
 ·have:=oo ((hd.2 d hd').2);unfold maxLen;omega
 ·have h0:=(hv v hv').2.2.2;have h6:=lY (fun s:aB=>s.Ga) 6 v.Gf fun s hs'=>yq v hv' s hs';have:v.Gf.length*6<=64*6:=tA _ h0;unfold bV;omega
 ·unfold maxLen;exact (hi.st v hv' s hs').2.2.1 a ha
 ·have hf:=(hs v hv' s hs').fm;have a1:=hf.l0;have a2:=hf.l1;have a3:=hf.ar;obtain ⟨st,hst⟩:=qP h4 v hv' s hs';exact ⟨TcC,TcC,qQ hst⟩
 ·obtain ⟨v,hv',hp⟩:=List.mem_flatMap.1 hp;obtain ⟨s,hs',hp⟩:=List.mem_flatMap.1 hp;obtain ⟨st,hst⟩:=qP h4 v hv' s hs';have hr:=zZ (Dh h5 v hv' s hs');unfold aK at hp;split at hp
  ·rename_i ho;obtain ⟨a,ha,rfl⟩:=List.mem_map.1 hp;have pS:=qQ hst ho a ha;have e2:=List.all_eq_true.1 hr.2.1 a ha;unfold fI at e2;have e1:=hr.1;unfold jw at e1;rw [eh,eL] at e1;have e3:=e1.1 a ha;rw [pS,nj] at e2 e3;obtain ⟨d,hd'⟩:=Option.isSome_iff_exists.1 e3;rw [hd'] at e2;simp only [eh,fk,Option.getD_some] at e2;have:=vu d (eV hd');simp only [aJ];omega
  cases hp
 have h6:=lY aW 384 g.F9 hpc;have:=r2.2.1;have:g.F9.length*384<=32*384:=tA _ TcC;unfold pieces;omega
end Go.Proofs.YtaagglbgohjldaaGreatDoor
namespace Go.Proofs.YtaagglbgohjldaaGreatDoor
open Go.Proofs.Tryz
open Go.RowKit Go.Maps Go.Shelf
variable {nm:ByteArray}{x:List (Int × Int)}{p:Int × Int}{ends:List (ByteArray × Int)}{n:Int}{g:af}{r:aY}{d:az}{w:World}{Bj Bd nc tc:Nat}{np jp tp:Option Addr}{nl jl:List ByteArray}{ok ok':Nat->Prop}
noncomputable def gF (g:af)(r:aY):List ByteArray:=if r.near.toList.isEmpty then [] else sP g r.near
def kR (g:af)(l:List ByteArray):List ByteArray:=l.flatMap fun nm=>((bH g.Gb nm).getD gT).tags
def jV (d:az):Bool:=!d.closed&&!d.missing
def jG (tag:ByteArray)(d:az):Bool:=tag.toList.isEmpty||bI d.tags tag
def nN (near:List ByteArray)(p:Int)(d:az):Bool:=!(p == 2)||bI near d.name
def vE (near tags:List ByteArray)(p:Int)(d:az):Bool:=!(p == 3)||(bI near d.name||d.tags.any (bI tags))
def iD (near tags:List ByteArray)(r:aY)(d:az):Bool:=jV d&&(jG r.tag d&&(nN near r.Gg d&&vE near tags r.Gg d))
noncomputable def nD (g:af)(r:aY)(d:az):Bool:=iD (gF g r) (kR g (gF g r)) r d
def xy (g:af)(d:az)(n:Int):Prop:=(0<=n/\n<d.Gc)/\¬ Mem (fM d.name d.Gc (pieces g.F9)) n
def qN (s:aB):List (ByteArray × Int):=s.Ga.map fun a=>(a.on,a.start+iB s.kind s.length s.Ga.length)
def oZ (l:List aB):List (ByteArray × Int):=match l.getLast? with
 | some s=>if s.kind=1\/s.kind=2 then qN s else []
 | none=>[]
def jE (g:af)(nm:ByteArray):List (ByteArray × Int):=oZ ((aM g.F9 nm).getD eY).Gf
def su (nm:ByteArray)(e:ByteArray × Int)(x:List (Int × Int)):List (Int × Int):=x.filterMap fun r=>if e.1=nm/\r.1<=e.2/\e.2<r.1+r.2 then some (e.2,r.1+r.2 - e.2) else none
def mQ (ends:List (ByteArray × Int))(nm:ByteArray)(x:List (Int × Int)):List (Int × Int):=ends.flatMap fun e=>su nm e x
def uM (r:aY):Bool:=r.Gg == 1&&!r.near.toList.isEmpty
def kI (g:af)(r:aY)(d:az)(n:Int):Prop:=nD g r d=true/\if uM r=true then ∃ x,iE x (xy g d)/\Mem (mQ (jE g r.near) d.name x) n else xy g d n
theorem CY {e:ByteArray × Int}(h:p∈su nm e x):e.1=nm/\p.1=e.2/\∃ r∈x,r.1<=e.2/\e.2<r.1+r.2/\p.2=r.1+r.2 - e.2:=by
 obtain ⟨r,hr,hp⟩:=List.mem_filterMap.1 h;split at hp
 ·rename_i c;injection hp with hp;subst hp;exact ⟨c.1,rfl,r,hr,c.2.1,c.2.2,rfl⟩
 cases hp
theorem Dl (h:p∈mQ ends nm x):∃ e∈ends,e.1=nm/\p.1=e.2/\∃ r∈x,r.1<=e.2/\e.2<r.1+r.2/\p.2=r.1+r.2 - e.2:=by
 obtain ⟨e,he,hp⟩:=List.mem_flatMap.1 h;exact ⟨e,he,CY hp⟩
theorem Iq (h:Mem (mQ ends nm x) n):Mem x n:=by
 obtain ⟨p,hp,h1,h2⟩:=h;obtain ⟨e,-,-,h3,r,hr,h4,h5,h6⟩:=Dl hp;exact ⟨r,hr,TcC,TcC⟩
theorem xS (h:∀ p∈x,0<=p.1/\1<=p.2/\p.1+p.2<=1073741824):dI (mQ ends nm x)=true:=by
 unfold dI;rw [eL];intro p hp;obtain ⟨e,-,-,h3,r,hr,h4,h5,h6⟩:=Dl hp;have:=h r hr;simp only [nT,eh,fk];omega
theorem wT (nm:ByteArray)(e:ByteArray × Int)(x:List (Int × Int)):(su nm e x).length<=x.length:=List.length_filterMap_le _ _
theorem Dj (ends:List (ByteArray × Int))(nm:ByteArray)(x:List (Int × Int)):(mQ ends nm x).length<=ends.length*x.length:=lY _ _ _ fun e _=>wT nm e x
theorem Cc (s:aB):(qN s).length<=s.Ga.length:=by
 unfold qN;rw [fW];exact bk _
theorem mem_of_getLast? {α:Type}:∀ {l:List α} {x:α},l.getLast?=some x->x∈l
 | [],_,h=>by cases h
 | a :: l,x,h=>by
  rw [List.getLast?_eq_getElem?] at h;exact ct h
theorem Bu {l:List aB}{m:Nat}(h:∀ s∈l,s.Ga.length<=m):(oZ l).length<=m:=by
 unfold oZ;split
 ·rename_i s hs;split
  ·exact cA (Cc s) (h s (mem_of_getLast? hs))
  simp
 simp
theorem GG (h:kI g r d n):xy g d n:=by
 obtain ⟨-,h⟩:=h;split at h
 ·obtain ⟨x,hx,hm⟩:=h;exact (hx.2 n).1 (Iq hm)
 exact h
def aY.pol (r:aY)(p:Int):aY:={ r with Gg:=p }
theorem GZ (h:nD g r d=true):nD g (r.pol 4) d=true:=by
 unfold nD iD at h ⊢;simp only [eh] at h ⊢;exact ⟨h.1,h.2.1,by simp [nN,aY.pol],by simp [vE,aY.pol]⟩
theorem GY (h:kI g r d n):kI g (r.pol 4) d n :=
 ⟨GZ h.1,by rw [bh (by simp [uM,aY.pol])];exact GG h⟩
theorem D6 (h:kP g r=0):(mchk g).2=0/\yZ g r=0:=by
 unfold kP at h;split at h
 ·rename_i hm;exact ⟨hm,h⟩
 rename_i hm;exact absurd h hm
def iI (b:Bool)(w:World)(e:Ending)(w':World):Prop:=e=.returned (.bool b)/\Below w.heap.size w w'
def Tan (x0:aY)(x1:Nat)(x2:Option Addr)(x3:Nat)(x4:Nat)(x5:Option Addr)(x6:Nat):Tab #[.int .i64 x0.Gi,.int .i64 x0.Gh,.int .i64 x0.Gc,.int .i64 x0.Gg,.string x0.tag,.string x0.near,.string x0.sep,.slice x2 x1 x3,.slice x5 x4 x6]:=⟨⟩
structure BC (w:World)(Bj Bd:Nat)(r:aY)(np jp:Option Addr)(nc jc:Nat)(nl jl:List ByteArray)(d:az)(tp:Option Addr)(tc:Nat):Prop where
 j:w.heap[Bj]?=some (.cells (Tan r nl.length np nc jl.length jp jc) 77 (0,0))
 d:w.heap[Bd]?=some (.cells (Tah d tp tc) 51 (0,0))
theorem BC.jc {jc:Nat}(h:BC w Bj Bd r np jp nc jc nl jl d tp tc)(i:Nat)(z:Value)(hz:[.int .i64 r.Gi,.int .i64 r.Gh,.int .i64 r.Gc,.int .i64 r.Gg,.string r.tag,.string r.near,.string r.sep,.slice np nl.length nc,.slice jp jl.length jc][i]?=some z):w.cell? (Bj,i)=some z:=by
 simp only [World.cell?,h.j];simpa using hz
theorem BC.dc {jc:Nat}(h:BC w Bj Bd r np jp nc jc nl jl d tp tc)(i:Nat)(z:Value)(hz:[.string d.name,.int .u64 d.id,.int .i64 d.first,.int .i64 d.Gc,.bool d.closed,.bool d.missing,.slice tp d.tags.length tc][i]?=some z):w.cell? (Bd,i)=some z:=by
 simp only [World.cell?,h.d];simpa using hz
theorem nM (w:World)(r:aY)(np jp:Option Addr)(nc jc:Nat)(nl jl:List ByteArray)(d:az)(tp:Option Addr)(tc:Nat) :
  BC ((w.alloc (.cells (Tan r nl.length np nc jl.length jp jc) 77)).alloc (.cells (Tah d tp tc) 51)) w.heap.size (w.heap.size+1) r np jp nc jc nl jl d tp tc /\
   Below w.heap.size w ((w.alloc (.cells (Tan r nl.length np nc jl.length jp jc) 77)).alloc (.cells (Tah d tp tc) 51)):=by
 have hA1:=ae w (.cells (Tan r nl.length np nc jl.length jp jc) 77);have hA2:=ae (w.alloc (.cells (Tan r nl.length np nc jl.length jp jc) 77)) (.cells (Tah d tp tc) 51);have hN1:=b9 w (.cells (Tan r nl.length np nc jl.length jp jc) 77);have hN2:=b9 (w.alloc (.cells (Tan r nl.length np nc jl.length jp jc) 77)) (.cells (Tah d tp tc) 51);rw [cW] at hN2;exact ⟨⟨(hA2.block _ (aq hN1)).trans hN1,hN2⟩,hA1.trans (hA2.mono hA1.size)⟩
theorem AX (r:aY)(np jp:Option Addr)(nc jc:Nat)(nl jl:List ByteArray)(d:az)(tp:Option Addr)(tc:Nat)(w:World) :
  Calls prog 28 #[.agg (Tan r nl.length np nc jl.length jp jc),.agg (Tah d tp tc)] w (iI (jV d) w):=by
 obtain ⟨hat,hb⟩:=nM w r np jp nc jc nl jl d tp tc;have Fm:=aa hat;clear hat;have HB:=aa hb;clear hb;have HR:Hid (jV d=(!d.closed&&!d.missing)):=aa rfl;go_enter func28,ntmps28
 go_upto_region 1 with (fail);generalize hW1:World.alloc (World.alloc w _) _=W1 at *;clear hW1;have dL:=Fm.o.dc;obtain ⟨d0,d1,d2,d3,d4,d5,d6⟩:=se dL;clear dL;cases hc:d.closed with
 | true =>
  rw [hc] at d4 HR;go_wp2;go_ret;exact ⟨TcK,HB.o⟩
 | false =>
  rw [hc] at d4 HR;cases hm:d.missing with
  | true =>
   rw [hm] at d5 HR;go_wp2;go_ret;exact ⟨TcK,HB.o⟩
  | false =>
   rw [hm] at d5 HR;go_wp2;go_ret;exact ⟨TcK,HB.o⟩
theorem zl (r:aY)(np jp:Option Addr)(nc jc:Nat)(nl jl:List ByteArray)(d:az)(tp:Option Addr)(tc:Nat)(w:World)(ht:ck aF 1 ok w [.slice tp d.tags.length tc] d.tags)(nt:d.tags.length<=1000000) :
  Calls prog 29 #[.agg (Tan r nl.length np nc jl.length jp jc),.agg (Tah d tp tc)] w (iI (jG r.tag d) w):=by
 obtain ⟨hat,hb⟩:=nM w r np jp nc jc nl jl d tp tc;have Fm:=aa hat;clear hat;have HB:=aa hb;clear hb;have HT:=aa ((ck.moves aF.moves).mv (Mv.of HB.o) ht);clear ht;have HR:Hid (jG r.tag d=(r.tag.toList.isEmpty||bI d.tags r.tag)):=aa rfl;go_enter func29,ntmps29
 go_upto_region 1 with (fail);generalize hW1:World.alloc (World.alloc w _) _=W1 at *;clear hW1;have dL:=Fm.o.dc;have d6:=dL 6 _ rfl;clear dL;have jL:=Fm.o.jc;have j4:=jL 4 _ rfl;clear jL;have HC:=aa (eT d.tags r.tag _ W1 HT.o nt);clear HT;cases PE:r.tag.toList.isEmpty with
 | true =>
  rw [PE] at HR;go_wp2;go_ret;exact ⟨TcK,HB.o⟩
 | false =>
  rw [PE] at HR;go_wp2_with (refine HC.o.mono ?_;rintro e w5 ⟨rfl,rfl⟩)
  go_ret;exact ⟨TcK,HB.o⟩
theorem yM (r:aY)(np jp:Option Addr)(nc jc:Nat)(nl jl:List ByteArray)(d:az)(tp:Option Addr)(tc:Nat)(w:World)(hn:ck aF 1 ok w [.slice np nl.length nc] nl)(zr:nl.length<=1000000) :
  Calls prog 30 #[.agg (Tan r nl.length np nc jl.length jp jc),.agg (Tah d tp tc)] w (iI (nN nl r.Gg d) w):=by
 obtain ⟨hat,hb⟩:=nM w r np jp nc jc nl jl d tp tc;have Fm:=aa hat;clear hat;have HB:=aa hb;clear hb;have HT:=aa ((ck.moves aF.moves).mv (Mv.of HB.o) hn);clear hn;have HR:Hid (nN nl r.Gg d=(!(r.Gg == 2)||bI nl d.name)):=aa rfl;go_enter func30,ntmps30
 go_upto_region 1 with (fail);generalize hW1:World.alloc (World.alloc w _) _=W1 at *;clear hW1;have dL:=Fm.o.dc;have d0:=dL 0 _ rfl;clear dL;have jL:=Fm.o.jc;have j3:=jL 3 _ rfl;have j7:=jL 7 _ rfl;clear jL;have HC:=aa (eT nl d.name _ W1 HT.o zr);clear HT;cases hp:(r.Gg == 2) with
 | false =>
  have hpn:(r.Gg != 2)=true:=by simpa [bne] using hp
  rw [hp] at HR;go_wp2;go_ret;exact ⟨TcK,HB.o⟩
 | true =>
  have hpn:(r.Gg != 2)=false:=by simpa [bne] using hp
  rw [hp] at HR;go_wp2_with (refine HC.o.mono ?_;rintro e w5 ⟨rfl,rfl⟩)
  go_ret;exact ⟨TcK,HB.o⟩
theorem Js (x:ByteArray)(Bj:Nat)(jp:Option Addr)(jc:Nat)(jl:List ByteArray)(w:World)(h8:w.cell? (Tac Bj 8)=some (.slice jp jl.length jc))(hj:ck aF 1 ok w [.slice jp jl.length jc] jl)(vt:jl.length<=1000000) :
  Calls prog 67 #[.string x,.pointer (some Bj)] w fun e w'=>e=.returned (.bool (bI jl x))/\w=w':=by
 have HC:=aa (eT jl x _ w hj vt);clear hj;go_enter func67,ntmps67
 go_wp2_with (refine HC.o.mono ?_;rintro e w5 ⟨rfl,rfl⟩)
 go_ret;exact ⟨rfl,rfl⟩
theorem pG (l:List ByteArray)(v:Value)(Bj:Nat)(jp:Option Addr)(jc:Nat)(jl:List ByteArray)(w:World)(h:ck aF 1 ok w [v] l)(hl:l.length<=1000000)(h8:w.cell? (Tac Bj 8)=some (.slice jp jl.length jc))(hj:ck aF 1 ok' w [.slice jp jl.length jc] jl)(vt:jl.length<=1000000) :
  Calls prog 114 #[v,.func (.func 67) #[] #[.pointer (some Bj)]] w fun e w'=>(∃ r:Int,e=.returned (.int .i64 r)/\decide (0<=r)=l.any (bI jl))/\w=w':=by
 obtain ⟨p,cap,rfl,hc1,hc2⟩:=h.cap;have HH:=aa h;clear h;have HC:=aa (fun x=>Js (ok:=ok') x Bj jp jc jl w h8 hj vt);clear h8 hj vt;go_enter func114,ntmps114;go_wp2
 go_loop [8,5] (fun i _=>∃ k:Nat,k<=l.length/\i=.int .i64 k/\(l.take k).any (bI jl)=false) (fun i _=>l.length - (intOf i).toNat)
 exact ⟨0,cg _,rfl,rfl⟩;obtain ⟨k,hk,rfl,hall⟩:=hrel;have cE:=aa hall;clear hall;by_cases hlt:k<l.length
 ·obtain ⟨y,hy⟩:=aj l k hlt;obtain ⟨b,off,us,rfl,gR,cX,ez,eE,hcv⟩:=HH.o.elem hy;obtain rfl:us=_:=eE;have q0:=hcv 0 _ rfl;rw [fp,fg] at q0;have ap1:Hid ((l.take (k+1)).any (bI jl)=bI jl y):=aa (by rw [take_snoc' l k y hy,rj,cE.o];simp);have AE:Hid (bI jl y=true->l.any (bI jl)=true):=aa fun h=>List.any_eq_true.2 ⟨y,ct hy,h⟩;clear hy cE hcv ez;have Us:=aa (HC.o y);cases hs:bI jl y with
  | true =>
   rw [hs] at Us;have HR:=aa (AE.o hs);clear hs;go_wp2_with (refine Us.o.mono ?_;rintro e w5 ⟨rfl,rfl⟩)
   go_ret;exact ⟨⟨k,rfl,by rw [HR.o];simp⟩,rfl⟩
  | false =>
   rw [hs] at Us;have HR:=aa (ap1.o.trans hs);clear hs;go_wp2_with (refine Us.o.mono ?_;rintro e w5 ⟨rfl,rfl⟩)
   go_round;exact ⟨k+1,TcC,TcG,HR.o⟩;simp [intOf];omega
 exact TbS
theorem mg (l:List ByteArray)(v:Value)(Bj:Nat)(jp:Option Addr)(jc:Nat)(jl:List ByteArray)(w:World)(h:ck aF 1 ok w [v] l)(hl:l.length<=1000000)(h8:w.cell? (Tac Bj 8)=some (.slice jp jl.length jc))(hj:ck aF 1 ok' w [.slice jp jl.length jc] jl)(vt:jl.length<=1000000) :
  Calls prog 66 #[v,.func (.func 67) #[] #[.pointer (some Bj)]] w fun e w'=>e=.returned (.bool (l.any (bI jl)))/\w=w':=by
 go_enter func66,ntmps66
 go_wp2_with fail;refine (pG (ok:=ok) (ok':=ok') l v Bj jp jc jl w h hl h8 hj vt).mono ?_;exact TbY
theorem ym {ok2:Nat->Prop}(r:aY)(np jp:Option Addr)(nc jc:Nat)(nl jl:List ByteArray)(d:az)(tp:Option Addr)(tc:Nat)(w:World)(hn:ck aF 1 ok w [.slice np nl.length nc] nl)(zr:nl.length<=1000000)(ht:ck aF 1 ok' w [.slice tp d.tags.length tc] d.tags)(nt:d.tags.length<=1000000)(hj:ck aF 1 ok2 w [.slice jp jl.length jc] jl)(vt:jl.length<=1000000) :
  Calls prog 31 #[.agg (Tan r nl.length np nc jl.length jp jc),.agg (Tah d tp tc)] w (iI (vE nl jl r.Gg d) w):=by
 obtain ⟨hat,hb⟩:=nM w r np jp nc jc nl jl d tp tc;have Fm:=aa hat;clear hat;have HB:=aa hb;clear hb;have HN:=aa ((ck.moves aF.moves).mv (Mv.of HB.o) hn);clear hn;have HT:=aa ((ck.moves aF.moves).mv (Mv.of HB.o) ht);clear ht;have HJ:=aa ((ck.moves aF.moves).mv (Mv.of HB.o) hj);clear hj;have HR:Hid (vE nl jl r.Gg d=(!(r.Gg == 3)||(bI nl d.name||d.tags.any (bI jl)))):=aa rfl;go_enter func31,ntmps31
 go_upto_region 1 with (fail);generalize hW1:World.alloc (World.alloc w _) _=W1 at *;clear hW1;have dL:=Fm.o.dc;have d0:=dL 0 _ rfl;have d6:=dL 6 _ rfl;clear dL;have jL:=Fm.o.jc;have j3:=jL 3 _ rfl;have j7:=jL 7 _ rfl;have j8:=jL 8 _ rfl;clear jL;have HC:=aa (eT nl d.name _ W1 HN.o zr);have HD:=aa (mg d.tags _ w.heap.size jp jc jl W1 HT.o nt j8 HJ.o vt);clear HN HT HJ j8;cases hp:(r.Gg == 3) with
 | false =>
  have hpn:(r.Gg != 3)=true:=by simpa [bne] using hp
  rw [hp] at HR;go_wp2;go_ret;exact ⟨TcK,HB.o⟩
 | true =>
  have hpn:(r.Gg != 3)=false:=by simpa [bne] using hp
  rw [hp] at HR;cases hh:bI nl d.name with
  | true =>
   rw [hh] at HC HR;go_wp2_with (refine HC.o.mono ?_;rintro e w5 ⟨rfl,rfl⟩)
   go_ret;exact ⟨TcK,HB.o⟩
  | false =>
   rw [hh] at HC HR;go_wp2_with (first | (refine HC.o.mono ?_;rintro e w5 ⟨rfl,rfl⟩) | (refine HD.o.mono ?_;rintro e w5 ⟨rfl,rfl⟩))
   go_ret;exact ⟨TcK,HB.o⟩
end Go.Proofs.YtaagglbgohjldaaGreatDoor
