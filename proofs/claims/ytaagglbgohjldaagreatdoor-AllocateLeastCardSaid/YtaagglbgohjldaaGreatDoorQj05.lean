/- Lemmas: ModA, Box, MkT, ModB, ModC, ModD, Sto, ModE, ModF, ModG, ModH, ModI, ModJ, ModK, ModL, ModZ, NeeA, ModM, ModN, ModO, ModP, ModQ, ModR, ModS, ModT, ModU, ModV, ModW, ModX, ModZa, ModZb, ModZc, ModY. -/
import Derived.Test.YtaagglbgohjldaaGreatDoorQj04
import Derived.Laws.EntriesVeiled
import Derived.WideMake
set_option maxRecDepth 100000
set_option maxHeartbeats 32000000
set_option linter.all false
open List renaming singleton_inj→IF,mem_append→AS,mem_singleton→AM,getElem?_eq_some_iff→AT,range→FF,mem_flatMap→BY,mem_map→As,mem_cons→F1,any_eq_true→Ft,replicate→DE,pairwise_iff_getElem→It
open Go.World renaming alloc→AI,setCell→AF,frozen?→BT,cell?→AN
open Go.Value renaming int→Bm,bool→FG,string→Cd
namespace Go.Proofs.YtaagglbgohjldaaGreatDoor
open Go.Proofs.Tryz
open Go.RowKit Go.Maps
variable {w w':World}{g:af}{bc:Nat}{x:eX}{s:aB}
def Tct{p:Prop}(h:p:=by
 unfold eZ
 match eE:v.Gf,h1,hs with
 |[x],_,hs =>
  obtain rfl:x=s:=by simpa using hs
  rfl):p:=h
def Tcj{p:Prop}(h:p:=by
 unfold eZ
 match eE:v.Gf with
 |[x]=>rw[eE]at h1;exact absurd rfl h1
 |[]=>rfl
 |_ :: _ :: _=>rfl):p:=h
def TcJ{p:Prop}(h:p:=by
 go_wp2;go_ret;exact⟨rfl,HB.o⟩):p:=h
def kU{ok:Nat->Prop}(v:ay)(u:List Value)(w:World)(hv:aN ok w u v)(hl:v.Gf.length<=1000000000) :
  Calls prog 148 #[.agg u.toArray] w fun e w'=>e=.returned (.int .i64 (eZ v))/\Below w.1.size w w':=by
 obtain⟨tv,sv,rfl,ew,fL⟩:=hv;obtain⟨tp,tc,rfl,_,_⟩:=ew.cap;obtain⟨sp,sc,rfl,a5,a7⟩:=fL.cap;replace fL:=aa fL;have HB:=aa (ae w (.cells (Tah v tp tc sp sc) 68));by_cases h1:v.Gf.length=1
 ·obtain⟨s,hs⟩:=aj v.Gf 0 Tc1;have hk:eZ v=s.kind:=by
   exact Tct
  obtain⟨b,off,us,rfl,_,cX,ez,eE,ON⟩:=fL.o.elem hs;obtain⟨a,st,rfl,_,_⟩:=eE;have c2:=(HB.o.cell (p:=⟨b,off+0*11+2,none⟩) cX).trans (ON 2 _ rfl);rw[Nat.zero_mul,fg]at c2;clear ON ez hs;rw[hk];clear hk;have hq:((v.Gf.length:Int)==1)=true:=by rw[h1];rfl
  have h2:0<v.Gf.length:=by omega
  have H1:=aa h1;clear h1;go_enter func148,ntmps148;exact TcJ
 have hk:eZ v=0:=by
  exact Tcj
 rw[hk];clear hk;have hq:((v.Gf.length:Int)==1)=false:=by simp;omega
 go_enter func148,ntmps148;exact TcJ
def CV(n d:Int)(w:World)(h0:0<=n)(h1:n<=1000000000000)(h2:1<=d)(h3:d<=1000000) :
  Calls prog 153 #[.int .i64 n,.int .i64 d] w fun e w'=>e=.returned (.int .i64 ((n+d-1)/d))/\w=w':=by
 have a5:0<=(n+d-1)/d:=lz Tc1 Tc1;have a7:(n+d-1)/d<=n+d-1:=mS _ Tc1;go_enter func153,ntmps153;go_wp2;go_ret;exact⟨rfl,rfl⟩
def pV(a b:ByteArray)(e:Int):Bool:=e==0&&a.toList==b.toList
def mJ(a b:ByteArray)(k:Int)(w:World) :
  Calls prog 182 #[.string a,.string b,.int .i64 k] w fun e w'=>e=.returned (.bool (pV a b k))/\w=w':=by
 go_enter func182,ntmps182
 by_cases h:k=0
 ·subst h;go_wp2;go_ret;exact⟨ah (by simp[pV]),rfl⟩
 have h1:(k==0)=false:=by simpa using h
 go_wp2;go_ret;exact⟨ah (by simp[pV,h1]),rfl⟩
def di(n lo hi:Int)(used:Bool)(w:World) :
  Calls prog 178 #[.int .i64 n,.int .i64 lo,.int .i64 hi,.bool used] w fun e w'=>e=.returned (.bool (bE n lo hi used))/\w=w':=by
 go_enter func178,ntmps178;cases used with
 |true =>
  by_cases h1:lo<=n
  ·by_cases h2:n<=hi
   ·go_wp2;go_ret;exact⟨ah (by simp[bE,h1,h2]),rfl⟩
   go_wp2;go_ret;exact⟨ah (by simp[bE,h2]),rfl⟩
  go_wp2;go_ret;exact⟨ah (by rw[bE,aw rfl,cN (by omega:¬lo<=n)];rfl),rfl⟩
 |false =>
  go_wp2
  all_goals
   go_ret;exact⟨ah (by simp[bE]),rfl⟩
def vM{α β:Type}(f:β->α->β)(b:β)(l:List α)(k:Nat)(x:α)(h:l[k]?=some x):(l.take (k+1)).foldl f b=f ((l.take k).foldl f b) x:=by
 rw[take_snoc' l k x h,List.foldl_append];rfl
def lT(n l:Int)(h0:0<=n):0<=fF n l/\fF n l<=1073741824:=by unfold fF;omega
def uZ:∀(l:List aB) (n:Int),0<=n->n<=1073741824->0<=l.foldl (fun n s=>fF n s.length) n/\l.foldl (fun n s=>fF n s.length) n<=1073741824
 |[],n,h0,h1=>⟨h0,h1⟩
 |s :: l,n,h0,_=>uZ l _ (lT n s.length h0).1 (lT n s.length h0).2
def yz{ok:Nat->Prop}(v:ay)(u:List Value)(w:World)(hv:aN ok w u v)(hl:v.Gf.length<=1000000000) :
  Calls prog 151 #[.agg u.toArray] w fun e w'=>e=.returned (.int .i64 (C8 v))/\Below w.1.size w w':=by
 obtain⟨tv,sv,rfl,ew,fL⟩:=hv;obtain⟨tp,tc,rfl,_,_⟩:=ew.cap;obtain⟨sp,sc,rfl,a5,a7⟩:=fL.cap;replace fL:=aa fL;have HB:=aa (ae w (.cells (Tah v tp tc sp sc) 68));go_enter func151,ntmps151;go_wp2
 go_loopw[3,9] (fun n i wr=>∃k:Nat,k<=v.Gf.length/\i=.int .i64 k/\n=.int .i64 ((v.Gf.take k).foldl (fun n s=>fF n s.length) 0)/\Below w.1.size w wr) (fun _ i _=>v.Gf.length-(intOf i).toNat)
 exact⟨0,cg _,rfl,rfl,HB.o⟩;obtain⟨k,hk,rfl,rfl,hB⟩:=hrel;have pB:=uZ (v.Gf.take k) 0 Tc1 Tc1;by_cases hlt:k<v.Gf.length
 ·obtain⟨s,hs⟩:=aj v.Gf k hlt;obtain⟨b,off,us,rfl,_,cX,ez,eE,ON⟩:=fL.o.elem hs;obtain⟨a,st,rfl,mC,hst⟩:=eE;obtain⟨ap,ac,rfl,_,_⟩:=mC.cap;obtain⟨eN,eR,rfl,_,_⟩:=hst.cap;have cT:wr.1[b]?=w.1[b]?:=hB.block b cX;obtain⟨q0,q1,q2,q3,q4,q5,q6,q7,q8,q9,a8⟩:=ak5 cT ON;have HF:=aa (vM (fun n s=>fF n (aB.length s)) 0 v.Gf k s hs);generalize (v.Gf.take k).foldl (fun n s=>fF n (aB.length s)) 0=m at *;clear ON ez hs cT mC hst;go_wp2;go_roundw;exact⟨k+1,Tc1,Tc5,by rw[HF.o];rfl,hB.alloc hB.size _⟩;simp[intOf];omega
 obtain rfl:k=v.Gf.length:=by omega
 go_wp2;go_ret;exact⟨cz (by rw[jz (bk _)];rfl),hB⟩
def zw(l:List aR)(k:Nat)(x:aR)(h:l[k]?=some x):((l.take (k+1)).filter (·.vol)).map (·.on)=((l.take k).filter (·.vol)).map (·.on)++if x.vol then [x.on] else []:=by
 rw[take_snoc' l k x h,List.filter_append,gl];cases hx:x.vol<;>simp[List.filter_cons,hx]
def Dx(B:Nat)(w:World)(l:List ByteArray)(e:Ending)(w':World):Prop:=∃v,e=.returned v/\dF w' B v l/\Below w.1.size w w'
def kN{ok:Nat->Prop}(s:aB)(pool:Bool)(u:List Value)(w:World)(hv:bC ok w u s)(hl:s.Ga.length<=1000000) :
  Calls prog 149 #[.agg u.toArray,.bool pool] w (Dx w.1.size w (dD s pool)):=by
 obtain⟨av,Oz,rfl,mC,hst⟩:=hv;obtain⟨ap,ac,rfl,ao,au⟩:=mC.cap;obtain⟨eN,eR,rfl,_,_⟩:=hst.cap;replace mC:=aa mC;clear hst;have HU:Hid (dD s pool=_):=aa (dD.eq_1 s pool);go_enter func149,ntmps149;go_wp2
 go_loopw[5,11] (fun l i wr=>∃k:Nat,k<=s.Ga.length/\i=.int .i64 k/\dF wr (w.1.size+1) l (((s.Ga.take k).filter (·.vol)).map (·.on))/\wr.1[w.1.size]?=some (.cells (Tae s ap ac eN eR) 114 (0,0))/\Below w.1.size w wr) (fun _ i _=>s.Ga.length-(intOf i).toNat)
 exact⟨0,cg _,rfl,dF.nil _ _,b9 w _,ae w _⟩;obtain⟨k,hk,rfl,a7,PX,hB⟩:=hrel;have ai:w.1.size<wr.1.size:=aq PX;by_cases hlt:k<s.Ga.length
 ·obtain⟨x,hx⟩:=aj s.Ga k hlt;obtain⟨b,off,us,rfl,_,cX,ez,eE,ON⟩:=mC.o.elem hx;obtain rfl:us=_:=eE;have cT:wr.1[b]?=w.1[b]?:=hB.block b cX;obtain⟨q0,q1,q2⟩:=Mn cT ON;have HN:=aa (zw s.Ga k x hx);have Tp:(((s.Ga.take k).filter (·.vol)).map (·.on)).length<=1000000:=by
   rw[fW];exact cA (tk _ _) (by rw[ey];omega)
  generalize ((s.Ga.take k).filter (·.vol)).map (·.on)=al at *;have Fc:=aa PX;clear PX;clear ON ez hx cT;cases I2:x.vol with
  |false =>
   rw[I2]at q0;go_wp2;go_roundw;exact⟨k+1,Tc1,Tc5,by rw[HN.o,I2];simp only[pj,fY,eM];exact a7.alloc _,(cj _ _ _ ai).trans Fc.o,hB.alloc hB.size _⟩;simp[intOf];omega
  |true =>
   rw[I2]at q0;have aw:=((ae wr (.cells #[true,x.on,.int .i64 x.start] 53)));have HOW:=aa a7;clear a7
   go_wp2_with(at_builtin;refine dz rfl _ _ rfl (w.1.size+1) _ al x.on rfl ?c1 (wr.1.size+1) 1 rfl ?c2 Tc1 ?c3 ?_)
   case c1=>exact(HOW.o.alloc _).alloc _
   case c2=>exact aD Tc2 rfl
   case c3=>simp;omega
   intro v' w1 OR a8 am;have a9:Below w.1.size w w1:=((hB.alloc hB.size _).alloc Tc6 _).trans (a8.mono Tc1);have Vf:=aa ((a8.block w.1.size Tc1).trans ((cj _ _ _ Tc6).trans ((cj _ _ _ ai).trans Fc.o)));clear a8 am;go_wp2;go_roundw;exact⟨k+1,Tc1,Tc5,by rw[HN.o,I2];exact OR,Vf.o,a9⟩;simp[intOf];omega
 obtain rfl:k=s.Ga.length:=by omega
 rw[jz (bk _)]at a7;have Tp:((s.Ga.filter (·.vol)).map (·.on)).length<=1000000:=by
  rw[fW];exact cA (tk _ _) hl
 generalize (s.Ga.filter (·.vol)).map (·.on)=al at *;have y2:=cr PX 2 _ rfl;have y6:=cr PX 6 _ rfl;have y7:=cr PX 7 _ rfl;have Fc:=aa PX;clear PX;have HOW:=aa a7;clear a7;cases Fi:s.log.toList.isEmpty with
 |true =>
  have af:(if s.log.toList.isEmpty then([]:List ByteArray) else [s.log])=[]:=by rw[Fi];rfl
  have ab:=aa af;clear af;cases pool with
  |false =>
   have HE:Hid (dD s false=al):=aa (by rw[HU.o,ab.o];simp);clear HU;go_wp2;go_ret;exact⟨_,rfl,by rw[HE.o];exact dF.mono HOW.o Tc1,hB⟩
  |true =>
   by_cases hk:s.kind=6
   ·have HE:Hid (dD s true=al++[s.pool]):=aa (by rw[HU.o,ab.o,hk];simp);have Vg:(s.kind==6)=true:=by simpa using hk
    have TL:=hB.size;clear HU;go_wp2_with(at_builtin;refine dz rfl _ _ rfl (w.1.size+1) _ (al) s.pool rfl ?a1 wr.1.size 1 rfl ?a2 ?a3 ?a4 ?_)
    case a1=>exact HOW.o.alloc _
    case a2=>exact aD rfl rfl
    case a3=>omega
    case a4=>simp;omega
    intro v' w9 a5 ag _;have ak:=aa a5;clear a5;have J1:=aa ((hB.alloc hB.size _).trans (ag.mono Tc1));clear ag;go_wp2;go_ret;exact⟨_,rfl,by rw[HE.o];exact dF.mono ak.o Tc1,J1.o⟩
   have HE:Hid (dD s true=al):=aa (by rw[HU.o,ab.o];simp[hk]);have Vg:(s.kind==6)=false:=by simpa using hk
   clear HU;go_wp2;go_ret;exact⟨_,rfl,by rw[HE.o];exact dF.mono HOW.o Tc1,hB⟩
 |false =>
  have af:(if s.log.toList.isEmpty then([]:List ByteArray) else [s.log])=[s.log]:=by rw[Fi];rfl
  have ab:=aa af;clear af;go_wp2_with(at_builtin;refine dz rfl _ _ rfl (w.1.size+1) _ al s.log rfl ?d1 wr.1.size 1 rfl ?d2 Tc1 ?d3 ?_)
  case d1=>exact HOW.o.alloc _
  case d2=>exact aD rfl rfl
  case d3=>simp;omega
  intro v1 w1 OR a8 _;replace OR:=aa OR;have a9:Below w.1.size w w1:=(hB.alloc hB.size _).trans (a8.mono Tc1);have ah:=(a8.block w.1.size Tc1).trans ((cj _ _ _ ai).trans Fc.o);have y2:=cr ah 2 _ rfl;have y7:=cr ah 7 _ rfl;have ay:w.1.size<w1.1.size:=aq ah;clear a8 ah;cases pool with
  |false =>
   have HE:Hid (dD s false=(al++[s.log])):=aa (by rw[HU.o,ab.o];simp);clear HU;go_wp2;go_ret;exact⟨_,rfl,by rw[HE.o];exact dF.mono OR.o Tc1,a9⟩
  |true =>
   by_cases hk:s.kind=6
   ·have HE:Hid (dD s true=(al++[s.log])++[s.pool]):=aa (by rw[HU.o,ab.o,hk];simp);have Vg:(s.kind==6)=true:=by simpa using hk
    have TL:=a9.size;clear HU;go_wp2_with(at_builtin;refine dz rfl _ _ rfl (w.1.size+1) _ ((al++[s.log])) s.pool rfl ?b1 w1.1.size 1 rfl ?b2 ?b3 ?b4 ?_)
    case b1=>exact OR.o.alloc _
    case b2=>exact aD rfl rfl
    case b3=>simp;omega
    case b4=>simp;omega
    intro v' w9 a5 ag _;have ak:=aa a5;clear a5;have J1:=aa ((a9.alloc a9.size _).trans (ag.mono Tc1));clear ag;go_wp2;go_ret;exact⟨_,rfl,by rw[HE.o];simp only[cV,List.cons_append,List.nil_append];exact dF.mono ak.o Tc1,J1.o⟩
   have HE:Hid (dD s true=(al++[s.log])):=aa (by rw[HU.o,ab.o];simp[hk]);have Vg:(s.kind==6)=false:=by simpa using hk
   clear HU;go_wp2;go_ret;exact⟨_,rfl,by rw[HE.o];exact dF.mono OR.o Tc1,a9⟩
def dm(x:eX):List Value:=[.int .i64 x.least,.int .i64 x.greatest,.bool x.F9,.bool x.several,.int .i64 x.chunk,.bool x.stale,.bool x.pool,.bool x.log,.bool x.mode,.bool x.done]
noncomputable def Ai(f:Func)(n:Nat):Code:=((f.body.bind (kX n)).getD .skip)
structure bN where
 tp:Option Addr
 tc:Nat
 dp:Option Addr
 dc:Nat
 vp:Option Addr
 vc:Nat
 hp:Option Addr
 hc:Nat
def uY(g:af)(a:bN):List Value:=[.string g.name,.int .u64 g.id,.int .i64 g.seq,.int .i64 g.Gd,.int .i64 g.next,.slice a.tp g.tags.length a.tc,.slice a.dp g.Gb.length a.dc,.slice a.vp g.F9.length a.vc,.slice a.hp g.history.length a.hc]
structure aY where
 Gi:Int
 Gh:Int
 Gc:Int
 Gg:Int
 tag:ByteArray
 near:ByteArray
 sep:ByteArray
structure dK(r:aY):Prop where
 l:-9223372036854775808<=r.Gi/\r.Gi<=9223372036854775807
 s:-9223372036854775808<=r.Gh/\r.Gh<=9223372036854775807
 e:-9223372036854775808<=r.Gc/\r.Gc<=9223372036854775807
 p:-9223372036854775808<=r.Gg/\r.Gg<=9223372036854775807
 t:r.tag.size<=9223372036854775807
 n:r.near.size<=9223372036854775807
 q:r.sep.size<=9223372036854775807
def FR(l:List ByteArray)(b:Nat)(w:World)(e:Ending)(w':World):Prop:=∃v:ByteArray,e=.returned (.string v)/\v∈l/\Src w' b/\cR (fun i=>i=b) w w'
def qH(b cap:Nat)(p:Option Addr)(l:List ByteArray)(w:World)(h0:0<l.length)(h1:l.length<=1000)(hr:ck aF 1 (fun k=>k≠b) w [.slice p l.length cap] l)(h:Src w b) :
  Calls prog 23 #[.pointer (some b),.slice p l.length cap] w (FR l b w):=by
 have HR:=aa hr;obtain⟨p',c',e,a7,zc⟩:=hr.cap;injection e with e1 _ e3;subst e1;subst e3;clear hr;go_enter func23,ntmps23
 go_wp2_with fail;refine(bY b _ _ Tc1 Tc1 h).mono ?_;rintro e w1 ⟨v,rfl,a5,a8,hs,hm⟩;obtain⟨k,rfl⟩:=D4 a5;obtain⟨x,hx⟩:=aj l k Tc1;obtain⟨g,off,u,rfl,hgb,hg,_,hv,ON⟩:=HR.o.elem hx;obtain rfl:u=[.string x]:=hv;have OI:w1.cell? (g,off+k*1)=some (.string x):=by
  rw[hm.cell hg hgb];simpa using ON 0 _ rfl
 rw[fp]at OI;replace hx:=aa hx;clear ON;have Vk:k<l.length:=by omega
 go_wp2;go_ret;exact⟨x,rfl,ct hx.o,hs,hm⟩
structure dN(ok:Nat->Prop)(w:World)(g:af)(a:bN):Prop where
 tags:ck aF 1 ok w [.slice a.tp g.tags.length a.tc] g.tags
 Gb:ck aO 7 ok w [.slice a.dp g.Gb.length a.dc] g.Gb
 F9:ck aN 6 ok w [.slice a.vp g.F9.length a.vc] g.F9
 hist:ck lF 3 ok w [.slice a.hp g.history.length a.hc] g.history
variable {a:bN}
def dN.mv{ok ok':Nat->Prop}(h:dN ok w g a)(hm:Mv ok ok' w w'):dN ok' w' g a :=
 ⟨(ck.moves aF.moves).mv hm h.tags,(ck.moves aO.moves).mv hm h.Gb,(ck.moves aN.moves).mv hm h.F9,(ck.moves lF.moves).mv hm h.hist⟩
def pF:Keyed prog 3:=int_keyed underlying3
def gY(w:World)(bc:Nat)(g:af)(a:bN):Prop :=
 ∃sm,w.1[bc]?=some (.cells #[g.name,.int .u64 g.id,.int .i64 g.seq,.int .i64 g.Gd,.int .i64 g.next,.slice a.tp g.tags.length a.tc,.slice a.dp g.Gb.length a.dc,.slice a.vp g.F9.length a.vc,.slice a.hp g.history.length a.hc,.map (some sm)] 156 (0,0)) /\
  bi prog 3 w sm 10 eH
def gY.below(h:gY w bc g a)(hb:Below w.1.size w w'):gY w' bc g a:=by
 obtain⟨sm,h1,h2⟩:=h;exact⟨sm,(hb.block _ (aq h1)).trans h1,h2.block (hb.block _ h2.lt)⟩
def gY.lt(h:gY w bc g a):bc<w.1.size:=by
 obtain⟨sm,h1,_⟩:=h;exact aq h1
def uG(w:World):(zeroValue 192).run prog w=.ok (jR yu) w:=by kernel_rfl
def oO(k:Int):eX:=(shapeOf k).getD yu
def uA(k:Int):(eH (.int .i64 k)).getD (jR yu)=jR (oO k):=by
 rw[show eH (.int .i64 k)=(shapeOf k).map jR from rfl];unfold oO;cases shapeOf k<;>rfl
def lu(h:shapeOf 2=some x):x.least=2:=by cases h;rfl
def kC(h:shapeOf 4=some x):x.least=3:=by cases h;rfl
def Mv.of{ok:Nat->Prop}(hb:Below w.1.size w w'):Mv ok ok w w':=⟨hb.size,fun b a5 ho=>⟨ho,hb.block b a5⟩⟩
def jT{ext:Int}{start:Int}(h:shapeOf s.kind=none):bJ ext s start=false:=by unfold bJ;rw[h]
def jP{ext:Int}{start:Int}(h:shapeOf s.kind=some x):bJ ext s start=(s.start==start&&decide (1<=s.length)&&decide (s.length<=32768)&&decide (x.least<=s.Ga.length)&&decide (s.Ga.length<=x.greatest)&&s.Ga.all (bT x) &&
   fq ext s.chunk x&&(x.log||s.log.toList.isEmpty)&&(x.pool||s.pool.toList.isEmpty)&&dP s x&&bE s.device 1 65535 x.pool&&bE s.mode 1 2 x.mode&&bE s.done 0 s.length x.done &&
   !(s.kind==2&&!(s.length%s.Ga.length==0))&&!(s.kind==4&&!(s.length%(s.Ga.length-1)==0))):=by unfold bJ;rw[h]
open Go.Shelf Go.Sort
variable {α:Type}{sz b k n:Nat}{w W w':World}{v:ay}{z:Nat × Nat}{l:List aR}{F9:List ay}{nm x:ByteArray}{t:TypeId}{z0 z1 z2 z3 z4 z5 z6 z7 z8 z9 ad c1 c2 c3 c5 c6 c9 TO W0 St Rr RE RK SO Se Sf To Wg aE Wr ZD UP US ab ao fa dj dq eS fs gE ff fi fb gn iS mx qS qe nF o4 oE oR qk oS pe ph pr pt qv rl rm rn sd sh ta zd zp am an ax b7 b8 ba be bf cv cw cy cB d4 d5 d6 d7 d8 db bn bo bp br bu bA bB bL ca cb cc ce cf ch ci cl cn co cp cu ke lE im ka lP mT mc me:Value}{s:aB}{d:az}
def uV{α:Type}(V:jx α)(sz:Nat)(ok:Nat->Prop)(l:List α)(w:World)(e:Ending)(w':World):Prop :=
 ∃v,e=.returned v/\ck V sz (fun b=>ok b\/w.1.size<=b) w' [v] l/\Below w.1.size w w'
def vB{V:jx α}{ok:Nat->Prop}{v:Value}{l:List α}(h:ck V sz ok w [v] l)(hl:¬0<l.length)(ok':Nat->Prop)(w':World):∃p c,v=.slice p 0 c/\ck V sz ok' w' [v] l:=by
 obtain⟨p,cap,e,h1,h2,_⟩:=h;obtain rfl:=IF.1 e;have h0:l.length=0:=by omega
 exact⟨p,cap,by rw[h0],p,cap,rfl,h1,h2,fun h=>absurd h hl⟩
def jy{V:jx α}{ok:Nat->Prop}(h1:∀u x,V ok w u x->∀z∈u,z.oneCell'=true):∀(l:List α) (off:Nat),oh V sz ok w b off l->∃cs,Flat V sz ok w cs l/\∀(j:Nat) (z:Value),cs[j]?=some z->w.cell? (b,off+j)=some z
 |[],off,_=>⟨[],rfl,fun j z h=>by simp at h⟩
 |x :: l,off,h=>by
  obtain⟨u,hu,hv,hc⟩:=h 0 x rfl;obtain⟨cs,hf,a5⟩:=jy h1 l (off+sz) (fun i y hy=>by
   obtain⟨u',a7,a8,a9⟩:=h (i+1) y Tdl;refine⟨u',a7,a8,fun j z hz=>?_⟩;have:=a9 j z hz;rwa[show off+(i+1)*sz+j=off+sz+i*sz+j from by rw[Oy];omega]at this)
  refine⟨u++cs,⟨u,cs,rfl,hu,hv,h1 u x hv,hf⟩,fun j z hz=>?_⟩;by_cases hj:j<sz
  ·rw[Fo Tc1]at hz;have:=hc j z hz;rwa[Nat.zero_mul,fg]at this
  rw[Cp Tc1,hu]at hz;have:=a5 (j-sz) z hz;rwa[show off+sz+(j-sz)=off+j from by omega]at this
def qZ{V:jx α}{ok:Nat->Prop}:∀(l:List α) (cs:List Value),Flat V sz ok w cs l->∀y∈cs,y.oneCell'=true
 |[],_,hf,y,hy=>by
  simp only[Flat]at hf;subst hf;cases hy
 |_ :: l,_,⟨u,r,e,_,_,h3,h4⟩,y,hy=>by
  rw[e]at hy;rcases AS.1 hy with hy|hy
  ·exact h3 y hy
  exact qZ l r h4 y hy
def mH{V:jx α}(hV:Moves V){ga:Nat}{ρ:Ren}(L:SlLaysE0.n41 prog ρ){i0:TypeInfo}{z:Value}(hi:prog.info? (ρ.t 23)=some i0)(du:i0.zero=some z)(On:i0.size=sz)(RC:i0.bytes=ga)(a9:z.cells.size=sz)(mu:0<sz)
  (a5:∀w,(Go.sizeOf (ρ.t 23)).run prog w=.ok sz w) {ok:Nat->Prop} (l:List α) (v:Value) (w:World) (hr:ck V sz ok w [v] l) (h1:∀u x,V ok w u x->∀y∈u,y.oneCell'=true) (Of:l.length<=1000000) (hb:ga<=1000) (h0:0<l.length) :
  Calls prog (ρ.f 41) #[v] w (uV V sz ok l w):=by
 obtain⟨p,cap,e,ab,ij,hp⟩:=hr;obtain rfl:=IF.1 e;obtain⟨b,off,rfl,cX,gR,hc⟩:=hp h0;obtain⟨cs,hf,aa⟩:=jy h1 l off hc;have hl:=Flat.length l cs hf;refine(AnyE.slices_Clone L i0 z sz ga hi du On RC a9 mu a5 b off l.length cap cs w hl Tda (by have:l.length*ga<=1000000*1000:=ue Of hb;omega) aa ?_).mono ?_
 ·exact qZ l cs hf
 rintro e w' ⟨v',rfl,ho,_,a7⟩;refine⟨v',rfl,?_,a7⟩;have a8:bF V sz (ρ.t 23) w.1.size ok w' v' l:=⟨cs,ho,Flat.moves hV ⟨a7.size,fun b hb ho=>⟨ho,a7.block b hb⟩⟩ _ _ hf⟩;exact a8.rd hV mu (fun b _ h=>.inl h) (fun b e=>.inr (fh ho b e).1)
def Tet{p:Prop}(h:p:=by rw[HN.o];exact⟨some _,0,rfl,by simp,by omega,fun h=>absurd h (by simp)⟩):p:=h
def TeK{p:Prop}(h:p:=by rw[HN.o];exact ck.nil):p:=h
def rD{ok:Nat->Prop}(l:List ByteArray)(v:Value)(w:World)(hr:ck aF 1 ok w [v] l)(Of:l.length<=1000000) :
  Calls prog 65 #[v] w (uV aF 1 ok l w):=by
 by_cases h0:0<l.length
 ·obtain⟨i0,hi,du,On,RC⟩:=gg zY;exact mH aF.moves Tryz.cloneS hi du On RC rfl Tc4 Tryz.sizeOf9 l v w hr (fun u x h y hy=>by obtain rfl:u=_:=h;obtain rfl:=AM.1 hy;rfl) Of Tc4 h0
 obtain⟨p,c,rfl,a5⟩:=vB hr h0 (fun b=>ok b\/w.1.size<=b) w;clear hr;replace a5:=aa a5;have HN:Hid (l=[]):=aa (fX Tc1);clear h0 Of;cases p with
 |none =>
  refine(AnyE.slices_Clone_nil Tryz.cloneS _ _ w).mono ?_;rintro e w' ⟨rfl,rfl⟩;exact⟨_,rfl,TeK,bj _ _⟩
 |some a =>
  have a7:∀(w:World) (a:Option Addr) (n c n' c':Nat),(binOp .eql 26 (.slice a n c) (.slice none n' c')).run prog w=.ok (.bool a.isNone) w:=fun w a n c n' c'=>Cl w _ _ a n c n' c' underlying26;go_enter func65,ntmps65;go_wp2;go_ret;exact⟨.slice (some ⟨w.1.size,0,none⟩) 0 0,rfl,Tet,(RowKit.Below.refl _ _).alloc (bk _) _⟩
def zk{ok:Nat->Prop}(l:List Int)(v:Value)(w:World)(hr:ck cO 1 ok w [v] l)(Of:l.length<=1000000) :
  Calls prog 158 #[v] w (uV cO 1 ok l w):=by
 by_cases h0:0<l.length
 ·obtain⟨i0,hi,du,On,RC⟩:=gg tZ;exact mH cO.moves Tryz.cloneI hi du On RC rfl Tc4 Tryz.sizeOf3 l v w hr (fun u x h y hy=>by obtain rfl:u=_:=h;obtain rfl:=AM.1 hy;rfl) Of Tc4 h0
 obtain⟨p,c,rfl,a5⟩:=vB hr h0 (fun b=>ok b\/w.1.size<=b) w;clear hr;replace a5:=aa a5;have HN:Hid (l=[]):=aa (fX Tc1);clear h0 Of;cases p with
 |none =>
  refine(AnyE.slices_Clone_nil Tryz.cloneI _ _ w).mono ?_;rintro e w' ⟨rfl,rfl⟩;exact⟨_,rfl,TeK,bj _ _⟩
 |some a =>
  have a7:∀(w:World) (a:Option Addr) (n c n' c':Nat),(binOp .eql 22 (.slice a n c) (.slice none n' c')).run prog w=.ok (.bool a.isNone) w:=fun w a n c n' c'=>Cl w _ _ a n c n' c' underlying22;go_enter func158,ntmps158;go_wp2;go_ret;exact⟨.slice (some ⟨w.1.size,0,none⟩) 0 0,rfl,Tet,(RowKit.Below.refl _ _).alloc (bk _) _⟩
def yS{ok:Nat->Prop}(l:List aR)(v:Value)(w:World)(hr:ck aQ 3 ok w [v] l)(Of:l.length<=1000000) :
  Calls prog 157 #[v] w (uV aQ 3 ok l w):=by
 by_cases h0:0<l.length
 ·obtain⟨i0,hi,du,On,RC⟩:=gg kL;exact mH aQ.moves Tryz.cloneA hi du On RC rfl Tc4 Tryz.sizeOf53 l v w hr (fun u x h y hy=>by obtain rfl:u=_:=h;simp only[dr,cY,dg]at hy;rcases hy with rfl|rfl|rfl<;>rfl) Of Tc4 h0
 obtain⟨p,c,rfl,a5⟩:=vB hr h0 (fun b=>ok b\/w.1.size<=b) w;clear hr;replace a5:=aa a5;have HN:Hid (l=[]):=aa (fX Tc1);clear h0 Of;cases p with
 |none =>
  refine(AnyE.slices_Clone_nil Tryz.cloneA _ _ w).mono ?_;rintro e w' ⟨rfl,rfl⟩;exact⟨_,rfl,TeK,bj _ _⟩
 |some a =>
  have a7:∀(w:World) (a:Option Addr) (n c n' c':Nat),(binOp .eql 49 (.slice a n c) (.slice none n' c')).run prog w=.ok (.bool a.isNone) w:=fun w a n c n' c'=>Cl w _ _ a n c n' c' underlying49;go_enter func157,ntmps157;go_wp2;go_ret;exact⟨.slice (some ⟨w.1.size,0,none⟩) 0 0,rfl,Tet,(RowKit.Below.refl _ _).alloc (bk _) _⟩
def CO{P:Program}{a5:Array Oper}{Q:Exit->Act->World->Prop}{l:List Oper}{a:Act}(h:Hid (wpList P a5 Q l a w)):wpList P a5 Q l a w:=h.o
structure qD(v:ay):Prop where
 tags:v.tags.length<=1000000
 Gf:v.Gf.length<=1000000
 seg:∀s∈v.Gf,s.Ga.length<=1000000/\s.stale.length<=1000000
def D8(ok:Nat->Prop)(v:ay)(w:World)(u:List Value)(w':World):Prop:=aN (fun b=>ok b\/w.1.size<=b) w' u v/\Below w.1.size w w'
def Eu(ok:Nat->Prop)(v:ay)(w:World)(e:Ending)(w':World):Prop:=∃u,e=.returned (.agg u.toArray)/\D8 ok v w u w'
def QB(ok:Nat->Prop)(L Z:Nat)(sv:Value):Nat->Prop:=fun b=>(ok b/\b<L)\/(Z<=b/\sv.ownBlock≠some b)
def Tcu{p:Prop}(h:p:=by
 rw[bw _ _ _ _ hb,bw _ _ _ _ hb,bw _ _ _ _ hb,bw _ _ _ _ hb,bw _ _ _ _ hb,bw _ _ _ _ hb]):p:=h
def TeD{p:Prop}(h:p:=by rcases ho with q|q<;>omega):p:=h
def pO{ok:Nat->Prop}(v:ay)(u:List Value)(w:World)(hv:aN ok w u v)(hz:qD v) :
  Calls prog 109 #[.agg u.toArray] w (Eu ok v w):=by
 obtain⟨tv,sv,rfl,ew,fL⟩:=hv;obtain⟨tp,tc,rfl,_,_⟩:=ew.cap;obtain⟨sp,sc,rfl,aW,aX⟩:=fL.cap;have On:=hz.tags;have RC:=hz.Gf;have HZ:=aa hz.seg;clear hz;replace ew:=aa ew;replace fL:=aa fL;have hb2:=(ae w (.cells (Tah v tp tc sp sc) 68)).trans ((ae (w.alloc (.cells (Tah v tp tc sp sc) 68)) (.cells Tak 68)).mono (ae w _).size);have h0:((w.alloc (.cells (Tah v tp tc sp sc) 68)).alloc (.cells Tak 68)).1[w.1.size]?=some (.cells (Tah v tp tc sp sc) 68 (0,0)):=(cj _ _ _ Tc2).trans (b9 w _);have h1:((w.alloc (.cells (Tah v tp tc sp sc) 68)).alloc (.cells Tak 68)).1[w.1.size+1]?=some (.cells Tak 68 (0,0)):=by
  have:=b9 (w.alloc (.cells (Tah v tp tc sp sc) 68)) (.cells Tak 68);rw[cW]at this;exact this
 have HZ2:Hid (((w.alloc (.cells (Tah v tp tc sp sc) 68)).alloc (.cells Tak 68)).1.size=w.1.size+2):=aa Tc2;replace hb2:=aa hb2;replace h0:=aa h0;replace h1:=aa h1;go_enter func109,ntmps109
 go_wp2_with fail;generalize aY:AI (AI w _) _=W2 at *;clear aY;have aZ:W2.1.size=w.1.size+2:=HZ2.o;refine(rD (ok:=fun b=>ok b/\b<w.1.size) v.tags _ _ ((ck.moves aF.moves).mv ⟨hb2.o.size,fun b hb ho=>⟨⟨ho,hb⟩,hb2.o.block b hb⟩⟩ ew.o) On).mono ?_;rintro e w3 ⟨bi,rfl,Fk,hb3⟩;obtain⟨a8,a9,rfl,_,_⟩:=Fk.cap;have b8:w.1.size+1<W2.1.size:=aq h1.o;have cJ:=Zbl hb2 hb3;have bl:w.1.size+2<=w3.1.size:=by have:=hb3.size;omega
 have aM:Hid (ck aF 1 (fun b=>(ok b/\b<w.1.size)\/(w.1.size+2<=b/\b<w3.1.size)) w3 [.slice a8 v.tags.length a9] v.tags):=aa ((ck.moves aF.moves).mv ⟨bk _,fun b hb ho=>⟨ho.imp id (fun q=>⟨Tc1,hb⟩),rfl⟩⟩ Fk);have ab:=(hb3.block _ Tc1).trans h0.o;have aO:=aa ((hb3.block _ b8).trans h1.o);clear hb3 Fk h0 h1 hb2 ew;have f4:=sr ab;have y4:=cr ab 4 _ rfl;have y5:=cr ab 5 _ rfl;replace ab:=aa ab;go_upto_region 4 with(fail);clear y4 y5 f4;have F2:=aa (block_setCell (i:=5) (.slice none 0 0) (block_setCell (w:=w3) (i:=4) (.slice a8 v.tags.length a9) ab.o));generalize au:AF (AF w3 _ _) _ _=W4 at *;have hk4:∀k,k≠w.1.size->W4.1[k]?=w3.1[k]?:=fun k hk=>by rw[<- au,bw _ _ _ _ hk,bw _ _ _ _ hk]
 have bm:W4.1.size=w3.1.size:=by rw[<- au];simp[AF]
 have eI:Hid (Below w.1.size w W4):=aa (by rw[<- au];exact(cJ.o.setCell (p:=⟨w.1.size,4,none⟩) (bk _) _).setCell (p:=⟨w.1.size,5,none⟩) (bk _) _);have aR:Hid (W4.1[w.1.size+1]?=_):=aa ((hk4 _ Tc1).trans aO.o);have Q9:Hid (ck aF 1 (fun b=>(ok b/\b<w.1.size)\/(w.1.size+2<=b/\b<w3.1.size)) W4 [.slice a8 v.tags.length a9] v.tags):=aa ((ck.moves aF.moves).mv ⟨Tc1,fun b hb ho=>⟨ho,hk4 b TeD⟩⟩ aM.o);clear au hk4 aM aO ab cJ;generalize hZ:w3.1.size=Z at *;clear hZ;have Ra:Hid (W4.1[w.1.size]?=some (.cells #[v.name,.int .u64 v.id,v.hidden,v.ro,.slice a8 v.tags.length a9,.slice none 0 0] 68 (0,0))):=F2;clear F2;go_wp2;go_loopw[15] (fun i wr=>∃(k:Nat) (sv:Value),k<=v.Gf.length/\i=.int .i64 k/\wr.1[w.1.size]?=some (.cells #[v.name,.int .u64 v.id,v.hidden,v.ro,.slice a8 v.tags.length a9,sv] 68 (0,0)) /\
   wr.1[w.1.size+1]?=some (.cells Tak 68 (0,0))/\bF bC 11 114 Z (QB ok w.1.size Z sv) wr sv (v.Gf.take k) /\
   ck aF 1 (fun b=>(ok b/\b<w.1.size)\/(w.1.size+2<=b/\b<Z)) wr [.slice a8 v.tags.length a9] v.tags/\Below w.1.size w wr/\Z<=wr.1.size) (fun i _=>v.Gf.length-(intOf i).toNat)
 case atStart=>exact⟨0,_,cg _,rfl,Ra.o,aR.o,⟨[],gS _ _ _ _,rfl⟩,Q9.o,eI.o,Tc1⟩
 clear Ra aR Q9 eI;obtain⟨k,sv,hk,rfl,PX,Yj,a7,ew,hB,hZ⟩:=hrel;replace PX:=aa PX;replace Yj:=aa Yj;replace a7:=aa a7;replace ew:=aa ew;by_cases hlt:k<v.Gf.length
 ·obtain⟨s,hs⟩:=aj v.Gf k hlt;have mu:=HZ.o s (ct hs);have aG:=mu.1;have aH:=mu.2;obtain⟨b,off,us,rfl,gR,cX,ez,eE,ON⟩:=fL.o.elem hs;obtain⟨av,Oz,rfl,mC,hst⟩:=eE;obtain⟨ap,ac,rfl,_,_⟩:=mC.cap;obtain⟨eN,eR,rfl,_,_⟩:=hst.cap;have cT:wr.1[b]?=w.1[b]?:=hB.block b cX;obtain⟨q0,q1,q2,q3,q4,q5,q6,q7,q8,q9,ba⟩:=ak5 cT ON;have HN:=aa (take_snoc' v.Gf k s hs);replace mC:=aa mC;replace hst:=aa hst;clear ON ez hs cT mu;go_upto_region 7 with(fail);clear q0 q1 q2 q3 q4 q5 q6 q7 q8 q9 ba;have Yk:=b9 wr (.cells (Tae s ap ac eN eR) 114);have bp:(wr.alloc (.cells (Tae s ap ac eN eR) 114)).1.size=wr.1.size+1:=by simp
  have hk5:=ae wr (.cells (Tae s ap ac eN eR) 114);replace Yk:=aa Yk;replace hk5:=aa hk5;generalize bb:AI wr _=W5 at *;generalize bq:wr.1.size=Bs at *;clear bb;have hS:∀w':World,Below W5.1.size W5 w'->w'.cell? (Tac Bs 3)=some (.slice ap s.Ga.length ac)/\w'.cell? (Tac Bs 5)=some (.slice eN s.stale.length eR):=fun w' hb=>by
   have:=(hb.block _ (aq Yk.o)).trans Yk.o;exact⟨cr this _ _ rfl,cr this _ _ rfl⟩
  replace hS:=aa hS;refine aL (fun w'=>w'.cell? (Tac Bs 3)=some (.slice ap s.Ga.length ac)/\w'.cell? (Tac Bs 5)=some (.slice eN s.stale.length eR)) 7 [] Tc3 (hS.o _ (bj _ _).drew) (fun a5=>?_);refine fS 0 a5 ?_;refine fS 1 a5 ?_;refine fS 3 a5 ?_;refine fS 4 a5 ?_;refine lR 2 fun K hK=>?_;go_simp;have eK:Hid (Below w.1.size w W5.drew):=aa ((hB.trans (hk5.o.mono (by have:=hB.size;omega))).drew);refine(yS (ok:=fun b=>ok b/\b<w.1.size) s.Ga _ _ ((ck.moves aQ.moves).mv ⟨eK.o.size,fun b hb ho=>⟨⟨ho,hb⟩,eK.o.block b hb⟩⟩ mC.o) aG).mono ?_;rintro e w6 ⟨bs,rfl,aI,mw⟩;obtain⟨Rb,Rc,rfl,_,_⟩:=aI.cap;have aw:Hid (Below W5.1.size W5 w6):=aa ⟨mw.os,mw.tape,mw.output,mw.size,mw.block⟩;refine hK.o _ _ (hS.o _ aw.o) ?_;clear hK K a5;have a5:=hS.o _ aw.o;refine fS 6 a5 ?_;refine lR 5 fun K hK=>?_;go_simp;have Tq:Hid (Below w.1.size w w6):=Zbl eK mw;refine(zk (ok:=fun b=>ok b/\b<w.1.size) s.stale _ _ ((ck.moves cO.moves).mv ⟨Tq.o.size,fun b hb ho=>⟨⟨ho,hb⟩,Tq.o.block b hb⟩⟩ hst.o) aH).mono ?_;rintro e w7 ⟨bu,rfl,af,tb⟩;obtain⟨am,ao,rfl,_,_⟩:=af.cap;have az:Hid (Below W5.1.size W5 w7):=Zbl aw tb;refine hK.o _ _ (hS.o _ az.o) ?_;clear hK K a5;refine aP Tc3 rfl ?_;simp only[cQ,cL];have OY:=(az.o.block _ (aq Yk.o)).trans Yk.o;have g3:=cr OY 3 _ rfl;have g5:=cr OY 5 _ rfl
  have gf:=sr OY;go_upto_region 8 with(fail);have bz:Z<=Bs:=by omega
  have bD:Bs+1<=w7.1.size:=by have:=az.o.size;omega
  have Re:=aa (block_setCell (i:=5) (.slice am s.stale.length ao) (block_setCell (w:=w7) (i:=3) (.slice Rb s.Ga.length Rc) OY));clear g3 g5 gf OY;generalize aA:AF (AF w7 _ _) _ _=W8 at *;have aS:∀k,k≠Bs->W8.1[k]?=w7.1[k]?:=fun k hk=>by rw[<- aA,bw _ _ _ _ hk,bw _ _ _ _ hk]
  have aT:W8.1.size=w7.1.size:=by rw[<- aA];simp[AF]
  have ag:Below Bs wr W8:=by
   rw[<- aA];exact(((hk5.o.trans (az.o.mono Tc1)).setCell (p:=⟨Bs,3,none⟩) (bk _) _).setCell (p:=⟨Bs,5,none⟩) (bk _) _)
  have aU:=aa aT;clear aA;replace ag:=aa ag;have mA:=hB.size;have Vt:Hid (Below w.1.size w W8):=aa (hB.trans (ag.o.mono Tc1));have Rf:Hid (W8.1[Bs]?=some (.cells (Tae s Rb Rc am ao) 114 (0,0))):=Re;clear Re;have gL:=cr Rf.o;obtain⟨g0,g1,g2,g3,g4,g5,g6,g7,g8,g9,bE⟩:=IC gL;clear gL;have OZ:=aa ((ag.o.block _ Tc1).trans PX.o);have Vu:=aa ((ag.o.block _ Tc1).trans Yj.o);have b5:=cr OZ.o 5 _ rfl;have bd:W8.frozen? (Tac w.1.size 5)=false:=by simp[BT,OZ.o]
  have ah:Hid (∀g,sv.ownBlock=some g->Z<=g/\g<Bs):=aa fun g e=>by
   obtain⟨cs,ho,_⟩:=a7.o;have:=fh ho g e;omega
  -- the new element,and the slice so aJ,in whatever world comes of new blocks
  have Yl:Hid (∀W:World,Below W8.1.size W8 W->bC (fun b=>QB ok w.1.size Z sv b/\b<W8.1.size) W [.int .i64 s.start,.int .i64 s.length,.int .i64 s.kind,.slice Rb s.Ga.length Rc,.int .i64 s.chunk,.slice am s.stale.length ao,.string s.log,.string s.pool,.int .i64 s.device,.int .i64 s.mode,.int .i64 s.done] s /\
    bF bC 11 114 Z (fun b=>QB ok w.1.size Z sv b/\b<W8.1.size) W sv (v.Gf.take k)):=aa fun W hW=>by
   have k8:∀b,b<W8.1.size->W.1[b]?=W8.1[b]?:=fun b hb=>hW.block b hb
   have aJ:∀b,((ok b/\b<w.1.size)\/Bs+1<=b)->b<W8.1.size->(QB ok w.1.size Z sv b/\b<W8.1.size)/\b≠Bs:=fun b hb hl=>by
    rcases hb with hb|hb
    ·exact⟨⟨.inl hb,hl⟩,Tc1⟩
    exact⟨⟨.inr ⟨Tc1,fun e=>by have:=ah.o b e;omega⟩,hl⟩,Tc1⟩
   refine⟨⟨_,_,rfl,(ck.moves aQ.moves).mv ⟨?_,fun b hb ho=>?_⟩ aI,(ck.moves cO.moves).mv ⟨?_,fun b hb ho=>?_⟩ af⟩,?_⟩
   ·have:=tb.size;have:=hW.size;omega
   ·have hl:b<W8.1.size:=by have:=tb.size;omega
    obtain⟨f1,f2⟩:=aJ b (ho.imp id (fun q=>by have:W5.1.size<=b:=q;omega)) hl;exact⟨f1,(k8 b hl).trans ((aS b f2).trans (tb.block b hb))⟩
   ·have:=hW.size;omega
   ·have hl:b<W8.1.size:=by omega
    obtain⟨f1,f2⟩:=aJ b (ho.imp id (fun q=>by have:=mw.size;have:W5.1.size<=w6.1.size:=aw.o.size;omega)) hl;exact⟨f1,(k8 b hl).trans (aS b f2)⟩
   obtain⟨cs,ho,hf⟩:=a7.o;have hm:∀b,b<wr.1.size->W.1[b]?=wr.1[b]?:=fun b hb=>(k8 b Tc1).trans (ag.o.block b Tc1);exact⟨cs,aC ho (fun g e=>hm g (fh ho g e).2),Flat.moves bC.moves ⟨by have:=hW.size;omega,fun b hb h=>⟨⟨h,Tc1⟩,hm b hb⟩⟩ _ _ hf⟩
  clear mw tb aI af a7;obtain⟨i0,hi,du,ai,ak⟩:=gg Am;replace hi:=aa hi;replace du:=aa du;replace ai:=aa ai;replace ak:=aa ak;have Vk:(v.Gf.take k).length<=1000000:=by rw[ey];omega
  clear aT;go_wp2_with(at_builtin;refine CO ?_)
  refine aa ?_;refine dX bC.moves underlying66 hi.o du.o ai.o ak.o rfl Tc4 Tc4 rfl _ _ rfl Z (fun b=>QB ok w.1.size Z sv b/\b<W8.1.size) sv (v.Gf.take k) s rfl (Yl.o _ (ae _ _)).2 W8.1.size 1 [.int .i64 s.start,.int .i64 s.length,.int .i64 s.kind,.slice Rb s.Ga.length Rc,.int .i64 s.chunk,.slice am s.stale.length ao,.string s.log,.string s.pool,.int .i64 s.device,.int .i64 s.mode,.int .i64 s.done] rfl rfl (Yl.o _ (ae _ _)).1 Tdc (fun j y hy=>aD rfl Tdl) Vk ?c1 ?c2 ?_
  case c1=>have:=aU.o;simp;omega
  case c2=>exact fun b e h=>(h.1.elim (fun q=>by have:=ah.o b e;omega) (fun q=>q.2 e))
  intro gb cap w9 hp;have aB:=hp.grown;have be:=aU.o;have bf:W8.1.size+1<=w9.1.size:=by have:=aB.size;simpa using this
  have k9:∀b,b<W8.1.size->sv.ownBlock≠some b->w9.1[b]?=W8.1[b]?:=fun b hb hn=>(aB.block b Tc6 (fun e=>hn e.symm)).trans (cj _ _ _ hb)
  have hgb:Z<=gb/\(sv.ownBlock=some gb\/W8.1.size<gb):=by
   rcases hp.at' with q|q
   ·exact⟨(ah.o gb q).1,.inl q⟩
   exact⟨by rw[q];simp;omega,.inr (by rw[q];simp)⟩
  have nL:sv.ownBlock≠some w.1.size:=fun e=>by have:=ah.o _ e;omega
  have aE:=(k9 w.1.size Tc1 nL).trans OZ.o;have bg:=aa aE;have b5:=cr aE 5 _ rfl;have bd:w9.frozen? (Tac w.1.size 5)=false:=by simp[BT,aE]
  have aV:Below w.1.size w w9:=by
   have:=(Vt.o.alloc Tc1 (.cells (Tae s Rb Rc am ao) 114));exact this.grown aB Tc6 (fun g e=>by have:=ah.o g e;omega)
  have ks:∀(z:Value) (b:Nat),b≠w.1.size->(w9.setCell (Tac w.1.size 5) z).1[b]?=w9.1[b]?:=fun z b hb=>bw _ _ _ _ hb;have Vw:(Value.slice (some gb) ((v.Gf.take k).length+1) cap).ownBlock=some gb:=rfl
  have Rg:Hid (∃(k':Nat) (aK:Value),k'<=v.Gf.length/\Bm .i64 ((k:Int)+1)=.int .i64 k'/\(w9.setCell (Tac w.1.size 5) (.slice (some gb) ((v.Gf.take k).length+1) cap)).1[w.1.size]?=some (.cells #[v.name,.int .u64 v.id,v.hidden,v.ro,.slice a8 v.tags.length a9,aK] 68 (0,0)) /\
    (w9.setCell (Tac w.1.size 5) (.slice (some gb) ((v.Gf.take k).length+1) cap)).1[w.1.size+1]?=some (.cells Tak 68 (0,0))/\bF bC 11 114 Z (QB ok w.1.size Z aK) (w9.setCell (Tac w.1.size 5) (.slice (some gb) ((v.Gf.take k).length+1) cap)) aK (v.Gf.take k') /\
    ck aF 1 (fun b=>(ok b/\b<w.1.size)\/(w.1.size+2<=b/\b<Z)) (w9.setCell (Tac w.1.size 5) (.slice (some gb) ((v.Gf.take k).length+1) cap)) [.slice a8 v.tags.length a9] v.tags/\Below w.1.size w (w9.setCell (Tac w.1.size 5) (.slice (some gb) ((v.Gf.take k).length+1) cap))/\Z<=(w9.setCell (Tac w.1.size 5) (.slice (some gb) ((v.Gf.take k).length+1) cap)).1.size):=aa (by
   have mu:(w9.setCell (Tac w.1.size 5) (.slice (some gb) ((v.Gf.take k).length+1) cap)).1.size=w9.1.size:=by simp[AF]
   refine⟨k+1,_,Tc1,Tc5,block_setCell (i:=5) _ bg.o,(ks _ _ Tc1).trans ((k9 _ Tc1 (fun e=>by have:=ah.o _ e;omega)).trans Vu.o),?_,(ck.moves aF.moves).mv ⟨Tc1,fun b hb ho=>⟨ho,?_⟩⟩ ew.o,aV.setCell (p:=⟨w.1.size,5,none⟩) (bk _) _,Tc1⟩
   ·rw[HN.o];obtain⟨cs,ho,hf⟩:=hp.own;refine⟨cs,?_,Flat.moves bC.moves ⟨Tc1,fun b hb h=>⟨?_,ks _ b ?_⟩⟩ _ _ hf⟩
    ·exact aC ho (fun g e=>by
      obtain rfl:gb=g:=by injection e
      exact ks _ gb Tc1)
    ·rcases h.1 with q|q
     ·exact .inl q
     refine .inr ⟨q.1,fun e=>?_⟩;obtain rfl:gb=b:=by injection e
     rcases hgb.2 with r|r
     ·exact q.2 r
     omega
    rcases h.1 with q|q
    ·omega
    omega
   have bh:b≠w.1.size:=by rcases ho with q|q<;>omega
   exact(ks _ b bh).trans ((k9 b Tc1 (fun e=>by have:=ah.o _ e;rcases ho with q|q<;>omega)).trans (ag.o.block b Tc1)))
  rw[show(v.Gf.take k).length=k from by rw[ey];omega]at Rg;clear hp aB aE k9 ks hgb nL Vw be bf aV;go_wp2;go_roundw;exact Rg.o;simp[intOf];omega
 obtain rfl:k=v.Gf.length:=by omega
 rw[jz (bk _)]at a7;obtain⟨Rh,Ri,hsv⟩:∃p c,sv=.slice p v.Gf.length c:=by
  have:=a7.o.rd (ok':=fun _=>True) bC.moves Tc4 (fun _ _ _=>trivial) (fun _ _=>trivial);obtain⟨p,c,e,_,_⟩:=this.cap;exact⟨p,c,e⟩
 subst hsv;have yL:=cr PX.o;have rL:=cr Yj.o;have rf:=sr Yj.o;obtain⟨y0,y1,y2,y3,y4,y5⟩:=sv6 yL;obtain⟨r0,r1,r2,r3,r4,r5⟩:=sv6 rL;clear yL rL;have Zw:Hid (∀wf:World,(∀b,b≠w.1.size+1->wf.1[b]?=wr.1[b]?)->wf.1.size=wr.1.size->Below w.1.size w wf->D8 ok v w [.string v.name,.int .u64 v.id,.bool v.hidden,.bool v.ro,.slice a8 v.tags.length a9,.slice Rh v.Gf.length Ri] wf):=aa fun wf hk hz hb=>by
  refine⟨⟨_,_,rfl,(ck.moves aF.moves).mv ⟨Tc1,fun b _ ho=>⟨ho.imp (fun q=>q.1) (fun q=>by omega),hk b TeD⟩⟩ ew.o,?_⟩,hb⟩;obtain⟨cs,ho,hf⟩:=a7.o;have hg:∀g,(Value.slice Rh v.Gf.length Ri).ownBlock=some g->Z<=g:=fun g e=>(fh ho g e).1
  have:bF bC 11 114 Z (fun b=>ok b\/w.1.size<=b) wf (.slice Rh v.Gf.length Ri) v.Gf :=
   ⟨cs,aC ho (fun g e=>hk g (by have:=hg g e;omega)),Flat.moves bC.moves ⟨Tc1,fun b _ h=>⟨h.imp (fun q=>q.1) (fun q=>by omega),hk b (by rcases h with q|q<;>omega)⟩⟩ _ _ hf⟩
  exact this.rd bC.moves Tc4 (fun _ _ h=>h) (fun g e=>.inr (by have:=hg g e;omega))
 clear a7 ew PX Yj;go_wp2;refine eC (v:=.agg (Tah v a8 a9 Rh Ri)) (by simp[results,Tryz.results109,go_sem,r0,r1,r2,r3,r4,r5]) rfl ⟨[.string v.name,.int .u64 v.id,.bool v.hidden,.bool v.ro,.slice a8 v.tags.length a9,.slice Rh v.Gf.length Ri],rfl,Zw.o _ (fun b hb=>?_) ?_ ?_⟩
 ·exact Tcu
 ·simp[AF]
 have hL:∀(V:World) (o:Nat) (z:Value),Below w.1.size w V->Below w.1.size w (V.setCell ⟨w.1.size+1,o,none⟩ z):=fun V o z q=>q.setCell (p:=⟨w.1.size+1,o,none⟩) TdH z
 exact hL _ _ _ (hL _ _ _ (hL _ _ _ (hL _ _ _ (hL _ _ _ (hL _ _ _ hB)))))
def aM(F9:List ay)(nm:ByteArray):Option ay:=F9.find? fun v=>decide (v.name=nm)
def eY:ay:=⟨⟨#[]⟩,0,false,false,[],[]⟩
def F8(ok:Nat->Prop)(F9:List ay)(nm:ByteArray)(w:World)(e:Ending)(w':World):Prop :=
 ∃u,e=.returned (.tuple #[.agg u.toArray,.bool (aM F9 nm).isSome])/\D8 ok ((aM F9 nm).getD eY) w u w'
def yV(h:∀(j:Nat) (v:ay),j<F9.length->F9[j]?=some v->¬v.name=nm):aM F9 nm=none:=by
 unfold aM;rw[List.find?_eq_none];intro v hv;obtain⟨j,hj⟩:=fc hv;simpa using h j v (AT.1 hj).1 hj
def CW(hno:∀(j:Nat) (u:ay),j<k->F9[j]?=some u->¬u.name=nm)(h:F9[k]?=some v)(e:v.name=nm):aM F9 nm=some v:=by
 unfold aM;rw[List.find?_eq_some_iff_getElem];obtain⟨hk,hv⟩:=AT.1 h;exact⟨by simpa using e,k,hk,hv,fun j hj=>by simpa using hno j _ hj (lO Tc1)⟩
def Tap(x0:af)(x1:Option Addr)(x2:Nat)(x3:Option Addr)(x4:Nat)(x5:Option Addr)(x6:Nat)(x7:Option Addr)(x8:Nat):Tab #[.string x0.name,.int .u64 x0.id,.int .i64 x0.seq,.int .i64 x0.Gd,.int .i64 x0.next,.slice x1 x0.tags.length x2,.slice x3 x0.Gb.length x4,.slice x5 x0.F9.length x6,.slice x7 x0.history.length x8]:=⟨⟩
def Te4{p:Prop}(h:p:=by rw[CM.o];exact⟨_,_,rfl,ck.nil,ck.nil⟩):p:=h
def TdP{p:Prop}(h:p:=by rw[CM.o];rfl):p:=h
def TeX{p:Prop}(h:p:=by simp[results,Tryz.results58,go_sem,r0,r1,r2,r3,r4,r5]):p:=h
def TeB{p:Prop}(h:p:=by rcases hbz with q|q<;>omega):p:=h
def fA{ok:Nat->Prop}(g:af)(a:bN)(nm:ByteArray)(w:World)(hr:ck aN 6 ok w [.slice a.vp g.F9.length a.vc] g.F9)(hd:g.F9.length<=1000000)(hz:∀v∈g.F9,qD v) :
  Calls prog 58 #[.agg (uY g a).toArray,.string nm] w (F8 ok g.F9 nm w):=by
 obtain⟨ID,ai,ak,G3,G4,Ge,Hb,Hc⟩:=a;dsimp only[uY]at hr ⊢;replace hr:=aa hr;have HT:=aa hz;clear hz;go_enter func58,ntmps58;go_wp2
 go_loopw[11] (fun i wr=>∃k:Nat,k<=g.F9.length/\i=.int .i64 k/\(∀j D,j<k->g.F9[j]?=some D->¬D.name=nm)/\Below w.1.size w wr/\w.1.size+1<wr.1.size/\wr.1[w.1.size+1]?=some (.cells Tak 68 (0,0))) (fun i _=>g.F9.length-(intOf i).toNat)
 case atStart =>
  refine⟨0,cg _,rfl,(fun j D hj=>by omega),((bj _ _).alloc (bk _) _).alloc Tc2 _,Tc2,?_⟩;have:=b9 (w.alloc (.cells (Tap g ID ai ak G3 G4 Ge Hb Hc) 31)) (.cells Tak 68);rw[cW]at this;exact this
 obtain⟨k,hk,rfl,hno,hB,hz,hR⟩:=hrel;have Ty:=aa hno;clear hno;by_cases hlt:k<g.F9.length
 ·obtain⟨v,hv⟩:=aj g.F9 k hlt;have mu:=HT.o v (ct hv);replace mu:=aa mu;obtain⟨b,off,u,rfl,gR,cX,ez,sA,ON⟩:=hr.o.elem hv;have My:=aa sA;obtain⟨tv,sv,rfl,ew,fL⟩:=sA;obtain⟨tp,tc,rfl,_,_⟩:=ew.cap;obtain⟨sp,sc,rfl,_,_⟩:=fL.cap;have cT:wr.1[b]?=w.1[b]?:=hB.block b cX;obtain⟨q0,q1,q2,q3,q4,q5⟩:=sw6 cT ON;have HD:=aa hv;clear hv;have yi:=aa hR;clear hR;clear ON ez cT ew fL;by_cases pD:v.name=nm
  ·have G2:=ae wr (.cells #[nm,.int .u64 v.id,v.hidden,v.ro,.slice tp v.tags.length tc,.slice sp v.Gf.length sc] 68);have a5:=aa ((G2.block _ hz).trans yi.o);have pL:=aa (hB.trans (G2.mono Tc1));clear G2;have a7:=aa pD;go_wp2_with fail;generalize DA:wr.alloc _=WA at *;clear DA;have sA:aN (fun b=>ok b/\b<w.1.size) WA [.string nm,.int .u64 v.id,.bool v.hidden,.bool v.ro,.slice tp v.tags.length tc,.slice sp v.Gf.length sc] v:=by
    have:=aN.moves.mv (ok':=fun b=>ok b/\b<w.1.size) ⟨pL.o.size,fun b hb ho=>⟨⟨ho,hb⟩,pL.o.block b hb⟩⟩ My.o;rwa[a7.o]at this
   have am:=aa pL.o.size;refine(pO (ok:=fun b=>ok b/\b<w.1.size) v _ _ sA mu.o).mono ?_;rintro e w3 ⟨u3,rfl,ao,hb3⟩;obtain⟨Ym,sv3,rfl,Fk,O0⟩:=ao;have Yn:=aa (show aN _ w3 _ v from⟨Ym,sv3,rfl,Fk,O0⟩);obtain⟨a8,a9,rfl,_,_⟩:=Fk.cap;obtain⟨ab,ag,rfl,_,_⟩:=O0.cap;clear Fk O0;have ah:=(hb3.block _ (aq a5.o)).trans a5.o;have rL:=cr ah;obtain⟨r0,r1,r2,r3,r4,r5⟩:=sv6 rL;have rf:=sr ah;have cJ:=Zbl pL hb3;have Qf:=aa (aq a5.o);replace hb3:=aa hb3;clear rL ah;have CM:Hid (aM g.F9 nm=some v):=aa (CW Ty.o HD.o a7.o);have O1:=Yn;rw[a7.o]at O1;have Zw:Hid (∀wf:World,(∀b,b≠w.1.size+1->wf.1[b]?=w3.1[b]?)->wf.1.size=w3.1.size->Below w.1.size w wf->D8 ok ((aM g.F9 nm).getD eY) w [.string nm,.int .u64 v.id,.bool v.hidden,.bool v.ro,.slice a8 v.tags.length a9,.slice ab v.Gf.length ag] wf):=aa fun wf hk hz hb=>by
    rw[CM.o];refine⟨aN.moves.mv ⟨Tc1,fun b au ho=>?_⟩ O1.o,hb⟩;have hbz:(ok b/\b<w.1.size)\/WA.1.size<=b:=ho;have:=am.o;have:=Qf.o;exact⟨hbz.imp (fun q=>q.1) (fun q=>by omega),hk b TeB⟩
   clear Yn O1 My HD;go_wp2;refine eC (v:=.tuple #[.agg #[nm,.int .u64 v.id,v.hidden,v.ro,.slice a8 v.tags.length a9,.slice ab v.Gf.length ag],true]) TeX rfl ⟨[.string nm,.int .u64 v.id,.bool v.hidden,.bool v.ro,.slice a8 v.tags.length a9,.slice ab v.Gf.length ag],TdP,Zw.o _ (fun b hb=>?_) ?_ ?_⟩
   ·exact Tcu
   ·simp[AF]
   have hL:∀(V:World) (o:Nat) (z:Value),Below w.1.size w V->Below w.1.size w (V.setCell ⟨w.1.size+1,o,none⟩ z):=fun V o z q=>q.setCell (p:=⟨w.1.size+1,o,none⟩) TdH z
   exact hL _ _ _ (hL _ _ _ (hL _ _ _ (hL _ _ _ (hL _ _ _ (hL _ _ _ cJ.o)))))
  exact Tbg
 obtain rfl:k=g.F9.length:=by omega
 have rL:=cr hR;obtain⟨r0,r1,r2,r3,r4,r5⟩:=sv6 rL;have rf:=sr hR;clear rL hR;have CM:Hid (aM g.F9 nm=none):=aa (yV Ty.o);go_wp2;refine eC (v:=.tuple #[.agg Tak,false]) TeX rfl ⟨[.string ⟨#[]⟩,.int .u64 0,.bool false,.bool false,.slice none 0 0,.slice none 0 0],TdP,Te4,?_⟩;have hL:∀(V:World) (o:Nat) (z:Value),Below w.1.size w V->Below w.1.size w (V.setCell ⟨w.1.size+1,o,none⟩ z):=fun V o z q=>q.setCell (p:=⟨w.1.size+1,o,none⟩) TdH z;exact hL _ _ _ (hL _ _ _ (hL _ _ _ (hL _ _ _ (hL _ _ _ (hL _ _ _ hB)))))
def gT:az:=⟨⟨#[]⟩,0,0,0,false,false,[]⟩
def Fu(ok:Nat->Prop)(d:az)(w:World)(u:List Value)(w':World):Prop:=aO (fun b=>ok b\/w.1.size<=b) w' u d/\Below w.1.size w w'
def FQ(ok:Nat->Prop)(Gb:List az)(nm:ByteArray)(w:World)(e:Ending)(w':World):Prop :=
 ∃u,e=.returned (.tuple #[.agg u.toArray,.bool (bH Gb nm).isSome])/\Fu ok ((bH Gb nm).getD gT) w u w'
def nZ{ok:Nat->Prop}(g:af)(a:bN)(nm:ByteArray)(w:World)(hr:ck aO 7 ok w [.slice a.dp g.Gb.length a.dc] g.Gb)(hd:g.Gb.length<=1000000)(hz:∀d∈g.Gb,d.tags.length<=1000000) :
  Calls prog 27 #[.agg (uY g a).toArray,.string nm] w (FQ ok g.Gb nm w):=by
 obtain⟨ID,ag,ah,G3,G4,Ge,Hb,Hc⟩:=a;dsimp only[uY]at hr ⊢;replace hr:=aa hr;have HT:=aa hz;clear hz;go_enter func27,ntmps27;go_wp2
 go_loopw[11] (fun i wr=>∃k:Nat,k<=g.Gb.length/\i=.int .i64 k/\(∀j D,j<k->g.Gb[j]?=some D->¬D.name=nm)/\Below w.1.size w wr/\w.1.size+1<wr.1.size/\wr.1[w.1.size+1]?=some (.cells Tam 51 (0,0))) (fun i _=>g.Gb.length-(intOf i).toNat)
 case atStart =>
  refine⟨0,cg _,rfl,(fun j D hj=>by omega),((bj _ _).alloc (bk _) _).alloc Tc2 _,Tc2,?_⟩;have:=b9 (w.alloc (.cells (Tap g ID ag ah G3 G4 Ge Hb Hc) 31)) (.cells Tam 51);rw[cW]at this;exact this
 obtain⟨k,hk,rfl,hno,hB,hz,hR⟩:=hrel;have Ty:=aa hno;clear hno;by_cases hlt:k<g.Gb.length
 ·obtain⟨d,hv⟩:=aj g.Gb k hlt;have mu:=HT.o d (ct hv);obtain⟨b,off,u,rfl,gR,cX,ez,sA,ON⟩:=hr.o.elem hv;obtain⟨tv,rfl,ew⟩:=sA;have Hx:=aa ew;obtain⟨tp,tc,rfl,_,_⟩:=ew.cap;have cT:wr.1[b]?=w.1[b]?:=hB.block b cX;obtain⟨q0,q1,q2,q3,q4,q5,q6⟩:=OD cT ON;have HD:=aa hv;clear hv;have yi:=aa hR;clear hR;clear ON ez cT ew;by_cases pD:d.name=nm
  ·have G2:=ae wr (.cells (Tax nm d tp tc) 51);have Vs:=aa (b9 wr (.cells (Tax nm d tp tc) 51));have a9:=aa ((G2.block _ hz).trans yi.o);have pL:=aa (hB.trans (G2.mono Tc1));have Qf:Hid (wr.1.size<(wr.alloc (.cells (Tax nm d tp tc) 51)).1.size):=aa Tc2;clear G2;have ab:=aa pD;go_wp2_with fail;generalize DA:wr.alloc _=WA at *;clear DA;refine(rD (ok:=fun b=>ok b/\b<w.1.size) d.tags _ _ ((ck.moves aF.moves).mv ⟨pL.o.size,fun b hb ho=>⟨⟨ho,hb⟩,pL.o.block b hb⟩⟩ Hx.o) mu).mono ?_;rintro e w3 ⟨Ym,rfl,Fk,hb3⟩;obtain⟨a5,a7,rfl,_,_⟩:=Fk.cap;replace Fk:=aa Fk;have hx:=(hb3.block _ Qf.o).trans Vs.o;have a8:=(hb3.block _ (by have:=aq a9.o;omega)).trans a9.o;have ak:=aa hb3.size;have cJ:=Zbl pL hb3;have xL:=cr hx;have rL:=cr a8;have x0:=xL 0 _ rfl;have r0:=rL 0 _ rfl;have x1:=xL 1 _ rfl;have r1:=rL 1 _ rfl;have x2:=xL 2 _ rfl;have r2:=rL 2 _ rfl;have x3:=xL 3 _ rfl;have r3:=rL 3 _ rfl;have x4:=xL 4 _ rfl;have r4:=rL 4 _ rfl;have x5:=xL 5 _ rfl;have r5:=rL 5 _ rfl;have x6:=xL 6 _ rfl;have r6:=rL 6 _ rfl;have xf:=sr hx;have rf:=sr a8;clear xL rL hx a8 hb3;have CM:Hid (bH g.Gb nm=some d):=aa (pR Ty.o HD.o ab.o);have hne:¬wr.1.size=w.1.size+1:=by omega
   have ai:¬w.1.size+1=wr.1.size:=by omega
   have Yg:=hB.size;have Zw:Hid (∀wf:World,(∀b,b≠w.1.size+1->b≠wr.1.size->wf.1[b]?=w3.1[b]?)->wf.1.size=w3.1.size->Below w.1.size w wf->Fu ok ((bH g.Gb nm).getD gT) w [.string nm,.int .u64 d.id,.int .i64 d.first,.int .i64 d.Gc,.bool d.closed,.bool d.missing,.slice a5 d.tags.length a7] wf):=aa fun wf hk am hb=>by
    rw[CM.o];refine⟨⟨_,by rw[<- ab.o];rfl,(ck.moves aF.moves).mv ⟨Tc1,fun b ao ho=>?_⟩ Fk.o⟩,hb⟩;have hbz:(ok b/\b<w.1.size)\/WA.1.size<=b:=ho;have:=Qf.o;exact⟨hbz.imp (fun q=>q.1) (fun q=>by omega),hk b TeB TeB⟩
   generalize hBx:wr.1.size=Bx at *;replace hBx:=aa hBx;clear Fk Hx HD;go_wp2;refine eC (v:=.tuple #[.agg (Tax nm d a5 a7),true]) Td6 rfl ⟨[.string nm,.int .u64 d.id,.int .i64 d.first,.int .i64 d.Gc,.bool d.closed,.bool d.missing,.slice a5 d.tags.length a7],TdP,Zw.o _ (fun b hb hb2=>?_) ?_ ?_⟩
   ·rw[bw _ _ _ _ hb,bw _ _ _ _ hb,bw _ _ _ _ hb,bw _ _ _ _ hb,bw _ _ _ _ hb,bw _ _ _ _ hb,bw _ _ _ _ hb,bw _ _ _ _ hb2]
   ·simp[AF]
   exact Tbb
  exact Tbg
 obtain rfl:k=g.Gb.length:=by omega
 have rL:=cr hR;obtain⟨r0,r1,r2,r3,r4,r5,r6⟩:=se rL;have rf:=sr hR;clear rL hR;have CM:Hid (bH g.Gb nm=none):=aa (ui Ty.o);go_wp2;refine eC (v:=.tuple #[.agg Tam,false]) Td6 rfl ⟨[.string ⟨#[]⟩,.int .u64 0,.int .i64 0,.int .i64 0,.bool false,.bool false,.slice none 0 0],TdP,by rw[CM.o];exact⟨_,rfl,ck.nil⟩,?_⟩;have hL:∀(V:World) (o:Nat) (z:Value),Below w.1.size w V->Below w.1.size w (V.setCell ⟨w.1.size+1,o,none⟩ z):=fun V o z q=>q.setCell (p:=⟨w.1.size+1,o,none⟩) TdH z;exact hL _ _ _ (hL _ _ _ (hL _ _ _ (hL _ _ _ (hL _ _ _ (hL _ _ _ (hL _ _ _ hB))))))
def wI{l:List Value}{q:Nat × Nat}(h:W.1[b]?=some (.cells l.toArray t q))(i:Nat)(z:Value)(hz:l[i]?=some z):W.cell? (b,i)=some z:=by
 exact TcH
def BO(h:W.1[b]?=some (.cells #[z0,z1,z2,z3,z4,z5] t (0,0))):(∀i,W.frozen? ⟨b,i,none⟩=false)/\W.cell? b=some z0/\W.cell? (Tac b 1)=some z1/\W.cell? (Tac b 2)=some z2/\W.cell? (Tac b 3)=some z3/\W.cell? (Tac b 4)=some z4/\W.cell? (Tac b 5)=some z5 :=
 ⟨fun i=>by simp[BT,h],wI (l:=[z0,z1,z2,z3,z4,z5]) h 0 _ rfl,wI (l:=[z0,z1,z2,z3,z4,z5]) h 1 _ rfl,wI (l:=[z0,z1,z2,z3,z4,z5]) h 2 _ rfl,wI (l:=[z0,z1,z2,z3,z4,z5]) h 3 _ rfl,wI (l:=[z0,z1,z2,z3,z4,z5]) h 4 _ rfl,wI (l:=[z0,z1,z2,z3,z4,z5]) h 5 _ rfl⟩
def zQ(h:W.1[b]?=some (.cells #[z0,z1,z2,z3,z4,z5] t (0,0)))(x0 x1 x2 x3 x4 x5:Value)(V:World)(e:V=(AF (AF (AF (AF (AF (AF W ⟨b,0,none⟩ x0) ⟨b,1,none⟩ x1) ⟨b,2,none⟩ x2) ⟨b,3,none⟩ x3) ⟨b,4,none⟩ x4) ⟨b,5,none⟩ x5)):(∀(n:Nat) (w:World),n<=b->Below n w W->Below n w V)/\V.1[b]?=some (.cells #[x0,x1,x2,x3,x4,x5] t (0,0))/\∀k,k≠b->V.1[k]?=W.1[k]?:=by
 subst e;have hs:∀(n:Nat) (w V:World) (o:Nat) (z:Value),n<=b->Below n w V->Below n w (V.setCell ⟨b,o,none⟩ z):=fun n w V o z hn q=>q.setCell (p:=⟨b,o,none⟩) hn z;have k0:(AF W ⟨b,0,none⟩ x0).1[b]?=some (.cells #[x0,z1,z2,z3,z4,z5] t (0,0)):=block_setCell (i:=0) x0 h;have k1:(AF (AF W ⟨b,0,none⟩ x0) ⟨b,1,none⟩ x1).1[b]?=some (.cells #[x0,x1,z2,z3,z4,z5] t (0,0)):=block_setCell (i:=1) x1 k0;have k2:(AF (AF (AF W ⟨b,0,none⟩ x0) ⟨b,1,none⟩ x1) ⟨b,2,none⟩ x2).1[b]?=some (.cells #[x0,x1,x2,z3,z4,z5] t (0,0)):=block_setCell (i:=2) x2 k1;have k3:(AF (AF (AF (AF W ⟨b,0,none⟩ x0) ⟨b,1,none⟩ x1) ⟨b,2,none⟩ x2) ⟨b,3,none⟩ x3).1[b]?=some (.cells #[x0,x1,x2,x3,z4,z5] t (0,0)):=block_setCell (i:=3) x3 k2;have k4:(AF (AF (AF (AF (AF W ⟨b,0,none⟩ x0) ⟨b,1,none⟩ x1) ⟨b,2,none⟩ x2) ⟨b,3,none⟩ x3) ⟨b,4,none⟩ x4).1[b]?=some (.cells #[x0,x1,x2,x3,x4,z5] t (0,0)):=block_setCell (i:=4) x4 k3;have k5:(AF (AF (AF (AF (AF (AF W ⟨b,0,none⟩ x0) ⟨b,1,none⟩ x1) ⟨b,2,none⟩ x2) ⟨b,3,none⟩ x3) ⟨b,4,none⟩ x4) ⟨b,5,none⟩ x5).1[b]?=some (.cells #[x0,x1,x2,x3,x4,x5] t (0,0)):=block_setCell (i:=5) x5 k4;exact⟨fun n w hn q=>(hs n w _ _ _ hn (hs n w _ _ _ hn (hs n w _ _ _ hn (hs n w _ _ _ hn (hs n w _ _ _ hn (hs n w _ _ _ hn q)))))),k5,fun k hk=>by rw[bw _ _ _ _ hk,bw _ _ _ _ hk,bw _ _ _ _ hk,bw _ _ _ _ hk,bw _ _ _ _ hk,bw _ _ _ _ hk]⟩
def Gq(h:W.1[b]?=some (.cells #[z0,z1,z2,z3,z4,z5,z6] t (0,0))):(∀i,W.frozen? ⟨b,i,none⟩=false)/\W.cell? b=some z0/\W.cell? (Tac b 1)=some z1/\W.cell? (Tac b 2)=some z2/\W.cell? (Tac b 3)=some z3/\W.cell? (Tac b 4)=some z4/\W.cell? (Tac b 5)=some z5/\W.cell? (Tac b 6)=some z6 :=
 ⟨fun i=>by simp[BT,h],wI (l:=[z0,z1,z2,z3,z4,z5,z6]) h 0 _ rfl,wI (l:=[z0,z1,z2,z3,z4,z5,z6]) h 1 _ rfl,wI (l:=[z0,z1,z2,z3,z4,z5,z6]) h 2 _ rfl,wI (l:=[z0,z1,z2,z3,z4,z5,z6]) h 3 _ rfl,wI (l:=[z0,z1,z2,z3,z4,z5,z6]) h 4 _ rfl,wI (l:=[z0,z1,z2,z3,z4,z5,z6]) h 5 _ rfl,wI (l:=[z0,z1,z2,z3,z4,z5,z6]) h 6 _ rfl⟩
def CR(h:W.1[b]?=some (.cells #[z0,z1,z2,z3,z4,z5,z6] t (0,0)))(x0 x1 x2 x3 x4 x5 x6:Value)(V:World)(e:V=(AF (AF (AF (AF (AF (AF (AF W ⟨b,0,none⟩ x0) ⟨b,1,none⟩ x1) ⟨b,2,none⟩ x2) ⟨b,3,none⟩ x3) ⟨b,4,none⟩ x4) ⟨b,5,none⟩ x5) ⟨b,6,none⟩ x6)):(∀(n:Nat) (w:World),n<=b->Below n w W->Below n w V)/\V.1[b]?=some (.cells #[x0,x1,x2,x3,x4,x5,x6] t (0,0))/\∀k,k≠b->V.1[k]?=W.1[k]?:=by
 subst e;have hs:∀(n:Nat) (w V:World) (o:Nat) (z:Value),n<=b->Below n w V->Below n w (V.setCell ⟨b,o,none⟩ z):=fun n w V o z hn q=>q.setCell (p:=⟨b,o,none⟩) hn z;have k0:(AF W ⟨b,0,none⟩ x0).1[b]?=some (.cells #[x0,z1,z2,z3,z4,z5,z6] t (0,0)):=block_setCell (i:=0) x0 h;have k1:(AF (AF W ⟨b,0,none⟩ x0) ⟨b,1,none⟩ x1).1[b]?=some (.cells #[x0,x1,z2,z3,z4,z5,z6] t (0,0)):=block_setCell (i:=1) x1 k0;have k2:(AF (AF (AF W ⟨b,0,none⟩ x0) ⟨b,1,none⟩ x1) ⟨b,2,none⟩ x2).1[b]?=some (.cells #[x0,x1,x2,z3,z4,z5,z6] t (0,0)):=block_setCell (i:=2) x2 k1;have k3:(AF (AF (AF (AF W ⟨b,0,none⟩ x0) ⟨b,1,none⟩ x1) ⟨b,2,none⟩ x2) ⟨b,3,none⟩ x3).1[b]?=some (.cells #[x0,x1,x2,x3,z4,z5,z6] t (0,0)):=block_setCell (i:=3) x3 k2;have k4:(AF (AF (AF (AF (AF W ⟨b,0,none⟩ x0) ⟨b,1,none⟩ x1) ⟨b,2,none⟩ x2) ⟨b,3,none⟩ x3) ⟨b,4,none⟩ x4).1[b]?=some (.cells #[x0,x1,x2,x3,x4,z5,z6] t (0,0)):=block_setCell (i:=4) x4 k3;have k5:(AF (AF (AF (AF (AF (AF W ⟨b,0,none⟩ x0) ⟨b,1,none⟩ x1) ⟨b,2,none⟩ x2) ⟨b,3,none⟩ x3) ⟨b,4,none⟩ x4) ⟨b,5,none⟩ x5).1[b]?=some (.cells #[x0,x1,x2,x3,x4,x5,z6] t (0,0)):=block_setCell (i:=5) x5 k4;have k6:(AF (AF (AF (AF (AF (AF (AF W ⟨b,0,none⟩ x0) ⟨b,1,none⟩ x1) ⟨b,2,none⟩ x2) ⟨b,3,none⟩ x3) ⟨b,4,none⟩ x4) ⟨b,5,none⟩ x5) ⟨b,6,none⟩ x6).1[b]?=some (.cells #[x0,x1,x2,x3,x4,x5,x6] t (0,0)):=block_setCell (i:=6) x6 k5;exact⟨fun n w hn q=>(hs n w _ _ _ hn (hs n w _ _ _ hn (hs n w _ _ _ hn (hs n w _ _ _ hn (hs n w _ _ _ hn (hs n w _ _ _ hn (hs n w _ _ _ hn q))))))),k6,fun k hk=>by rw[bw _ _ _ _ hk,bw _ _ _ _ hk,bw _ _ _ _ hk,bw _ _ _ _ hk,bw _ _ _ _ hk,bw _ _ _ _ hk,bw _ _ _ _ hk]⟩
def J5(h:W.1[b]?=some (.cells #[z0,z1,z2,z3,z4,z5,z6,z7,z8,z9,ad] t (0,0))):(∀i,W.frozen? ⟨b,i,none⟩=false)/\W.cell? b=some z0/\W.cell? (Tac b 1)=some z1/\W.cell? (Tac b 2)=some z2/\W.cell? (Tac b 3)=some z3/\W.cell? (Tac b 4)=some z4/\W.cell? (Tac b 5)=some z5/\W.cell? (Tac b 6)=some z6/\W.cell? (Tac b 7)=some z7/\W.cell? (Tac b 8)=some z8/\W.cell? (Tac b 9)=some z9/\W.cell? (Tac b 10)=some ad :=
 ⟨fun i=>by simp[BT,h],wI (l:=[z0,z1,z2,z3,z4,z5,z6,z7,z8,z9,ad]) h 0 _ rfl,wI (l:=[z0,z1,z2,z3,z4,z5,z6,z7,z8,z9,ad]) h 1 _ rfl,wI (l:=[z0,z1,z2,z3,z4,z5,z6,z7,z8,z9,ad]) h 2 _ rfl,wI (l:=[z0,z1,z2,z3,z4,z5,z6,z7,z8,z9,ad]) h 3 _ rfl,wI (l:=[z0,z1,z2,z3,z4,z5,z6,z7,z8,z9,ad]) h 4 _ rfl,wI (l:=[z0,z1,z2,z3,z4,z5,z6,z7,z8,z9,ad]) h 5 _ rfl,wI (l:=[z0,z1,z2,z3,z4,z5,z6,z7,z8,z9,ad]) h 6 _ rfl,wI (l:=[z0,z1,z2,z3,z4,z5,z6,z7,z8,z9,ad]) h 7 _ rfl,wI (l:=[z0,z1,z2,z3,z4,z5,z6,z7,z8,z9,ad]) h 8 _ rfl,wI (l:=[z0,z1,z2,z3,z4,z5,z6,z7,z8,z9,ad]) h 9 _ rfl,wI (l:=[z0,z1,z2,z3,z4,z5,z6,z7,z8,z9,ad]) h 10 _ rfl⟩
def JE(h:W.1[b]?=some (.cells #[z0,z1,z2,z3,z4,z5,z6,z7,z8,z9,ad] t (0,0)))(x0 x1 x2 x3 x4 x5 x6 x7 x8 x9 a5:Value)(V:World)(e:V=(AF (AF (AF (AF (AF (AF (AF (AF (AF (AF (AF W ⟨b,0,none⟩ x0) ⟨b,1,none⟩ x1) ⟨b,2,none⟩ x2) ⟨b,3,none⟩ x3) ⟨b,4,none⟩ x4) ⟨b,5,none⟩ x5) ⟨b,6,none⟩ x6) ⟨b,7,none⟩ x7) ⟨b,8,none⟩ x8) ⟨b,9,none⟩ x9) ⟨b,10,none⟩ a5)):(∀(n:Nat) (w:World),n<=b->Below n w W->Below n w V)/\V.1[b]?=some (.cells #[x0,x1,x2,x3,x4,x5,x6,x7,x8,x9,a5] t (0,0))/\∀k,k≠b->V.1[k]?=W.1[k]?:=by
 subst e;have hs:∀(n:Nat) (w V:World) (o:Nat) (z:Value),n<=b->Below n w V->Below n w (V.setCell ⟨b,o,none⟩ z):=fun n w V o z hn q=>q.setCell (p:=⟨b,o,none⟩) hn z;have k0:(AF W ⟨b,0,none⟩ x0).1[b]?=some (.cells #[x0,z1,z2,z3,z4,z5,z6,z7,z8,z9,ad] t (0,0)):=block_setCell (i:=0) x0 h;have k1:(AF (AF W ⟨b,0,none⟩ x0) ⟨b,1,none⟩ x1).1[b]?=some (.cells #[x0,x1,z2,z3,z4,z5,z6,z7,z8,z9,ad] t (0,0)):=block_setCell (i:=1) x1 k0;have k2:(AF (AF (AF W ⟨b,0,none⟩ x0) ⟨b,1,none⟩ x1) ⟨b,2,none⟩ x2).1[b]?=some (.cells #[x0,x1,x2,z3,z4,z5,z6,z7,z8,z9,ad] t (0,0)):=block_setCell (i:=2) x2 k1;have k3:(AF (AF (AF (AF W ⟨b,0,none⟩ x0) ⟨b,1,none⟩ x1) ⟨b,2,none⟩ x2) ⟨b,3,none⟩ x3).1[b]?=some (.cells #[x0,x1,x2,x3,z4,z5,z6,z7,z8,z9,ad] t (0,0)):=block_setCell (i:=3) x3 k2;have k4:(AF (AF (AF (AF (AF W ⟨b,0,none⟩ x0) ⟨b,1,none⟩ x1) ⟨b,2,none⟩ x2) ⟨b,3,none⟩ x3) ⟨b,4,none⟩ x4).1[b]?=some (.cells #[x0,x1,x2,x3,x4,z5,z6,z7,z8,z9,ad] t (0,0)):=block_setCell (i:=4) x4 k3;have k5:(AF (AF (AF (AF (AF (AF W ⟨b,0,none⟩ x0) ⟨b,1,none⟩ x1) ⟨b,2,none⟩ x2) ⟨b,3,none⟩ x3) ⟨b,4,none⟩ x4) ⟨b,5,none⟩ x5).1[b]?=some (.cells #[x0,x1,x2,x3,x4,x5,z6,z7,z8,z9,ad] t (0,0)):=block_setCell (i:=5) x5 k4;have k6:(AF (AF (AF (AF (AF (AF (AF W ⟨b,0,none⟩ x0) ⟨b,1,none⟩ x1) ⟨b,2,none⟩ x2) ⟨b,3,none⟩ x3) ⟨b,4,none⟩ x4) ⟨b,5,none⟩ x5) ⟨b,6,none⟩ x6).1[b]?=some (.cells #[x0,x1,x2,x3,x4,x5,x6,z7,z8,z9,ad] t (0,0)):=block_setCell (i:=6) x6 k5;have k7:(AF (AF (AF (AF (AF (AF (AF (AF W ⟨b,0,none⟩ x0) ⟨b,1,none⟩ x1) ⟨b,2,none⟩ x2) ⟨b,3,none⟩ x3) ⟨b,4,none⟩ x4) ⟨b,5,none⟩ x5) ⟨b,6,none⟩ x6) ⟨b,7,none⟩ x7).1[b]?=some (.cells #[x0,x1,x2,x3,x4,x5,x6,x7,z8,z9,ad] t (0,0)):=block_setCell (i:=7) x7 k6;have k8:(AF (AF (AF (AF (AF (AF (AF (AF (AF W ⟨b,0,none⟩ x0) ⟨b,1,none⟩ x1) ⟨b,2,none⟩ x2) ⟨b,3,none⟩ x3) ⟨b,4,none⟩ x4) ⟨b,5,none⟩ x5) ⟨b,6,none⟩ x6) ⟨b,7,none⟩ x7) ⟨b,8,none⟩ x8).1[b]?=some (.cells #[x0,x1,x2,x3,x4,x5,x6,x7,x8,z9,ad] t (0,0)):=block_setCell (i:=8) x8 k7;have k9:(AF (AF (AF (AF (AF (AF (AF (AF (AF (AF W ⟨b,0,none⟩ x0) ⟨b,1,none⟩ x1) ⟨b,2,none⟩ x2) ⟨b,3,none⟩ x3) ⟨b,4,none⟩ x4) ⟨b,5,none⟩ x5) ⟨b,6,none⟩ x6) ⟨b,7,none⟩ x7) ⟨b,8,none⟩ x8) ⟨b,9,none⟩ x9).1[b]?=some (.cells #[x0,x1,x2,x3,x4,x5,x6,x7,x8,x9,ad] t (0,0)):=block_setCell (i:=9) x9 k8;have a7:(AF (AF (AF (AF (AF (AF (AF (AF (AF (AF (AF W ⟨b,0,none⟩ x0) ⟨b,1,none⟩ x1) ⟨b,2,none⟩ x2) ⟨b,3,none⟩ x3) ⟨b,4,none⟩ x4) ⟨b,5,none⟩ x5) ⟨b,6,none⟩ x6) ⟨b,7,none⟩ x7) ⟨b,8,none⟩ x8) ⟨b,9,none⟩ x9) ⟨b,10,none⟩ a5).1[b]?=some (.cells #[x0,x1,x2,x3,x4,x5,x6,x7,x8,x9,a5] t (0,0)):=block_setCell (i:=10) a5 k9;exact⟨fun n w hn q=>(hs n w _ _ _ hn (hs n w _ _ _ hn (hs n w _ _ _ hn (hs n w _ _ _ hn (hs n w _ _ _ hn (hs n w _ _ _ hn (hs n w _ _ _ hn (hs n w _ _ _ hn (hs n w _ _ _ hn (hs n w _ _ _ hn (hs n w _ _ _ hn q))))))))))),a7,fun k hk=>by rw[bw _ _ _ _ hk,bw _ _ _ _ hk,bw _ _ _ _ hk,bw _ _ _ _ hk,bw _ _ _ _ hk,bw _ _ _ _ hk,bw _ _ _ _ hk,bw _ _ _ _ hk,bw _ _ _ _ hk,bw _ _ _ _ hk,bw _ _ _ _ hk]⟩
def I6{c0 c4:Value}(h:W.1[b]?=some (.cells #[c0,c1,c2,c3,c4,c5] t z)):(∀q:fo,(ext W q).cell? b=some c0)/\(∀q:fo,(ext W q).cell? (Tac b 1)=some c1)/\(∀q:fo,(ext W q).cell? (Tac b 2)=some c2)/\(∀q:fo,(ext W q).cell? (Tac b 3)=some c3)/\(∀q:fo,(ext W q).cell? (Tac b 4)=some c4)/\(∀q:fo,(ext W q).cell? (Tac b 5)=some c5) :=
 have f:=fun i x hx=>aG (aq h) (wI (l:=[c0,c1,c2,c3,c4,c5]) h i x hx)
 ⟨f 0 _ rfl,f 1 _ rfl,f 2 _ rfl,f 3 _ rfl,f 4 _ rfl,f 5 _ rfl⟩
def Hr{c0 c4 c7 c8:Value}(h:W.1[b]?=some (.cells #[c0,c1,c2,c3,c4,c5,c6,c7,c8] t z)):(∀q:fo,(ext W q).cell? b=some c0)/\(∀q:fo,(ext W q).cell? (Tac b 1)=some c1)/\(∀q:fo,(ext W q).cell? (Tac b 2)=some c2)/\(∀q:fo,(ext W q).cell? (Tac b 3)=some c3)/\(∀q:fo,(ext W q).cell? (Tac b 4)=some c4)/\(∀q:fo,(ext W q).cell? (Tac b 5)=some c5)/\(∀q:fo,(ext W q).cell? (Tac b 6)=some c6)/\(∀q:fo,(ext W q).cell? (Tac b 7)=some c7)/\(∀q:fo,(ext W q).cell? (Tac b 8)=some c8) :=
 have f:=fun i x hx=>aG (aq h) (wI (l:=[c0,c1,c2,c3,c4,c5,c6,c7,c8]) h i x hx)
 ⟨f 0 _ rfl,f 1 _ rfl,f 2 _ rfl,f 3 _ rfl,f 4 _ rfl,f 5 _ rfl,f 6 _ rfl,f 7 _ rfl,f 8 _ rfl⟩
def K7{c0 c4 c7 c8 c10:Value}(h:W.1[b]?=some (.cells #[c0,c1,c2,c3,c4,c5,c6,c7,c8,c9,c10] t z)):(∀q:fo,(ext W q).cell? b=some c0)/\(∀q:fo,(ext W q).cell? (Tac b 1)=some c1)/\(∀q:fo,(ext W q).cell? (Tac b 2)=some c2)/\(∀q:fo,(ext W q).cell? (Tac b 3)=some c3)/\(∀q:fo,(ext W q).cell? (Tac b 4)=some c4)/\(∀q:fo,(ext W q).cell? (Tac b 5)=some c5)/\(∀q:fo,(ext W q).cell? (Tac b 6)=some c6)/\(∀q:fo,(ext W q).cell? (Tac b 7)=some c7)/\(∀q:fo,(ext W q).cell? (Tac b 8)=some c8)/\(∀q:fo,(ext W q).cell? (Tac b 9)=some c9)/\(∀q:fo,(ext W q).cell? (Tac b 10)=some c10) :=
 have f:=fun i x hx=>aG (aq h) (wI (l:=[c0,c1,c2,c3,c4,c5,c6,c7,c8,c9,c10]) h i x hx)
 ⟨f 0 _ rfl,f 1 _ rfl,f 2 _ rfl,f 3 _ rfl,f 4 _ rfl,f 5 _ rfl,f 6 _ rfl,f 7 _ rfl,f 8 _ rfl,f 9 _ rfl,f 10 _ rfl⟩
structure JT(g:af):Prop where
 dl:g.Gb.length<=1000000
 dt:∀d∈g.Gb,d.tags.length<=1000000
 vl:g.F9.length<=1000000
 vz:∀v∈g.F9,qD v
def Tad(x0:af)(x1:bN):Tab #[.string x0.name,.int .u64 x0.id,.int .i64 x0.seq,.int .i64 x0.Gd,.int .i64 x0.next,.slice x1.tp x0.tags.length x1.tc,.slice x1.dp x0.Gb.length x1.dc,.slice x1.vp x0.F9.length x1.vc,.slice x1.hp x0.history.length x1.hc]:=⟨⟩
def Tbj{p:Prop}(h:p:=by
 refine(nZ g a nm W (ok:=fun k=>ok k/\k<w.1.size) (dN.Gb (Rj.o W hb)) HZ.o.dl HZ.o.dt).mono ?_;rintro e w' ⟨u,rfl,hv,hb'⟩;rw[Yh]at hv;rw[N3];obtain⟨t,rfl,ht⟩:=hv;obtain⟨tp,tc,rfl,h1,h2⟩:=ht.cap;have sA:aO _ w' _ _:=⟨_,rfl,ht⟩
 exact⟨_,_,rfl,sA,hb'⟩):p:=h
def TcX{p:Prop}(h:p:=by
 ·exact QW.o k TeD):p:=h
def TcY{p:Prop}(h:p:=by
 exact ho.imp id (fun q=>⟨q.1,Tc1⟩)):p:=h
def TaY{p:Prop}(h:p:=by
 refine cH hQ 0 hHeld ?_;refine cH hQ 1 hHeld ?_;refine cH hQ 2 hHeld ?_;refine cH hQ 3 hHeld ?_;refine cH hQ 4 hHeld ?_;refine cH hQ 5 hHeld ?_;refine mh (i:=6) (j:=10) rfl rfl rfl rfl Tc3 (fun K hK=>?_) (fun K hK=>?_)
 ·go_simp;refine(HC.o _ (bj _ _).drew).mono ?_;rintro e w1 ⟨tp,tc,rfl,hv1,hb1⟩;have hb1':Below w.1.size w w1:=⟨hb1.os,hb1.tape,hb1.output,hb1.size,hb1.block⟩;refine hK.o _ _ (HS.o _ hb1') ?_;clear hK K hHeld;have hHeld:=HS.o _ hb1';have Zx:=aa hv1;clear hv1 hb1;have cU:=aa hb1';clear hb1';refine cH hQ 7 hHeld ?_;refine cH hQ 8 hHeld ?_;refine cH hQ 9 hHeld ?_;refine lR 10 fun K hK=>?_;go_simp;have hb2:Below w.1.size w (w1.alloc (.cells Tam 51)):=cU.o.alloc cU.o.size _;refine hK.o _ _ (HS.o _ hb2) ?_;clear hK K hHeld;have gh:=b9 w1 (.cells Tam 51);have gO:w1.1.size<(w1.alloc (.cells Tam 51)).1.size:=by simp
  have hv2:aO (fun k=>(ok k/\k<w.1.size)\/(w.1.size<=k/\k<w1.1.size)) (w1.alloc (.cells Tam 51)) [.string x.name,.int .u64 x.id,.int .i64 x.first,.int .i64 x.Gc,.bool x.closed,.bool x.missing,.slice tp x.tags.length tc] x:=aO.moves.mv ⟨Tc2,fun k hk ho=>⟨ho.imp id (fun q=>⟨q,hk⟩),cj _ _ _ hk⟩⟩ Zx.o;have mA:=cU.o.size;generalize hW2:World.alloc w1 _=W2 at *;generalize hb0:w1.1.size=b0 at *;clear hW2 hb0 Zx cU;have Vn:=aa hv2;clear hv2;obtain⟨zf,z0,z1,z2,z3,z4,z5,z6⟩:=Gq gh;obtain⟨sb,sk,so⟩:=CR gh (.string x.name) (.int .u64 x.id) (.int .i64 x.first) (.int .i64 x.Gc) (.bool x.closed) (.bool x.missing) (.slice tp x.tags.length tc) _ rfl;have cJ:=aa (sb _ _ mA hb2);have F2:=aa sk;have QW:=aa so;clear sb sk so gh;refine lR 11 fun K hK=>?_;go_simp;refine hK.o _ _ (HS.o _ cJ.o) ?_;clear hK K;refine lR 12 fun K hK=>?_;go_simp;refine hK.o _ _ (HS.o _ cJ.o) ?_;clear hK K;refine aP Tc3 rfl ?_;simp only[cQ,km,cL];refine HK.o _ _ b0 _ cJ.o mA F2.o (aO.moves.mv ⟨Tdd,fun k hk ho=>⟨?_,?_⟩⟩ Vn.o)
  ·exact TcY
  exact TcX
 go_simp;have hb2:Below w.1.size w (w.drew.alloc (.cells Tam 51)):=((bj _ _).drew).alloc (bk _) _;refine hK.o _ _ (HS.o _ hb2) ?_;clear hK K hHeld;have hHeld:=HS.o _ hb2;refine lR 6 fun K hK=>?_;go_simp;refine(HC.o _ hb2).mono ?_;rintro e w1 ⟨tp,tc,rfl,hv1,hb1⟩;have hb1':Below w.1.size w w1:=hb2.trans (hb1.mono hb2.size);refine hK.o _ _ (HS.o _ hb1') ?_;clear hK K hHeld;have hHeld:=HS.o _ hb1';have gh:=(hb1.block _ Tc2).trans (b9 w.drew (.cells Tam 51));have hv2:aO (fun k=>(ok k/\k<w.1.size)\/(w.1.size<=k/\w.1.size<k)) w1 [.string x.name,.int .u64 x.id,.int .i64 x.first,.int .i64 x.Gc,.bool x.closed,.bool x.missing,.slice tp x.tags.length tc] x:=aO.moves.mv ⟨bk _,fun k hk ho=>⟨ho.imp id (fun q=>by simp at q;omega),rfl⟩⟩ hv1;have mA:w.1.size<=w.1.size:=bk _;have gh:w1.1[w.1.size]?=some (.cells Tam 51 (0,0)):=gh;clear hb2;have hb2:=hb1';clear hv1 hb1 hb1';generalize w1=W2 at *;refine cH hQ 7 hHeld ?_;refine cH hQ 8 hHeld ?_;refine cH hQ 9 hHeld ?_;have Vn:=aa hv2;clear hv2;obtain⟨zf,z0,z1,z2,z3,z4,z5,z6⟩:=Gq gh;obtain⟨sb,sk,so⟩:=CR gh (.string x.name) (.int .u64 x.id) (.int .i64 x.first) (.int .i64 x.Gc) (.bool x.closed) (.bool x.missing) (.slice tp x.tags.length tc) _ rfl;have cJ:=aa (sb _ _ mA hb2);have F2:=aa sk;have QW:=aa so;clear sb sk so gh;refine lR 11 fun K hK=>?_;go_simp;refine hK.o _ _ (HS.o _ cJ.o) ?_;clear hK K;refine lR 12 fun K hK=>?_;go_simp;refine hK.o _ _ (HS.o _ cJ.o) ?_;clear hK K;refine aP Tc3 rfl ?_;simp only[cQ,km,cL];refine HK.o _ _ w.1.size _ cJ.o mA F2.o (aO.moves.mv ⟨Tdd,fun k hk ho=>⟨?_,?_⟩⟩ Vn.o)
 ·exact TcY
 exact TcX):p:=h
def OF(W:World)(b:Nat)(g:af)(a:bN):@Taa Prop (W.cell? b=some (.string g.name)/\W.cell? (Tac b 1)=some (.int .u64 g.id)/\W.cell? (Tac b 2)=some (.int .i64 g.seq)/\W.cell? (Tac b 3)=some (.int .i64 g.Gd)/\W.cell? (Tac b 4)=some (.int .i64 g.next)/\W.cell? (Tac b 5)=some (.slice a.tp g.tags.length a.tc)/\W.cell? (Tac b 6)=some (.slice a.dp g.Gb.length a.dc)/\W.cell? (Tac b 7)=some (.slice a.vp g.F9.length a.vc)/\W.cell? (Tac b 8)=some (.slice a.hp g.history.length a.hc)):=⟨⟩
def OK(W:World)(b:Nat)(g:af)(a:bN)(P:Prop):@Taa Prop (W.cell? b=some (.string g.name)/\W.cell? (Tac b 1)=some (.int .u64 g.id)/\W.cell? (Tac b 2)=some (.int .i64 g.seq)/\W.cell? (Tac b 3)=some (.int .i64 g.Gd)/\W.cell? (Tac b 4)=some (.int .i64 g.next)/\W.cell? (Tac b 5)=some (.slice a.tp g.tags.length a.tc)/\W.cell? (Tac b 6)=some (.slice a.dp g.Gb.length a.dc)/\W.cell? (Tac b 7)=some (.slice a.vp g.F9.length a.vc)/\W.cell? (Tac b 8)=some (.slice a.hp g.history.length a.hc)/\P):=⟨⟩
def sM{ok:Nat->Prop}(Q:Exit->Act->World->Prop){c4 c7 c8 c10:Value}(w:World)(g:af)(a:bN)(bc sm Bx:Nat)(nm:ByteArray)(hx:w.1[bc]?=some (.cells #[g.name,.int .u64 g.id,.int .i64 g.seq,.int .i64 g.Gd,.int .i64 g.next,.slice a.tp g.tags.length a.tc,.slice a.dp g.Gb.length a.dc,.slice a.vp g.F9.length a.vc,.slice a.hp g.history.length a.hc,.map (some sm)] 156 (0,0)))(hn:w.cell? (Tac Bx 1)=some (.string nm))(PX:Bx<w.1.size)
  (hg:dN ok w g a) (hz:JT g) (x:az) (Tz:Bool) (Yh:(bH g.Gb nm).getD gT=x) (N3:(bH g.Gb nm).isSome=Tz)
  (HK:Hid (∀(tp:Option Addr) (tc:Nat) (b:Nat) (W':World),Below w.1.size w W'->w.1.size<=b->W'.1[b]?=some (.cells (Tai x tp tc) 51 (0,0))->aO (fun k=>(ok k/\k<w.1.size)\/(w.1.size<=k/\k≠b)) W' [.string x.name,.int .u64 x.id,.int .i64 x.first,.int .i64 x.Gc,.bool x.closed,.bool x.missing,.slice tp x.tags.length tc] x->Q .normal ⟨#[.pointer (some bc),c1,c2,c3,c4,c5,.pointer (some Bx),.pointer (some b),.bool Tz,c9,c10,TO,W0,St,Rr,RE,RK,SO,Se,Sf,.tuple #[.agg (Tai x tp tc),Tz],.pointer (some bc),.pointer (some bc),.pointer (some bc),.agg (Tad g a),.pointer (some (Tac Bx 1)),.string nm,.tuple #[.agg (Tai x tp tc),Tz],.agg (Tai x tp tc),.bool Tz,dj,dq,eS,fs,gE,ff,fi,fb,gn,iS,mx,qS,qe,nF,o4,oE,oR,qk,oS,pe,ph,pr,pt,qv,rl,rm,rn],[]⟩ W'))
  (hQ:∀c (a:Act) (d:Tmp) (v:Value) w,Q (.panic c) (a.put (some d) v) w->Q (.panic c) a w) :
  (Ai Tryz.f146 4).wp prog Q ⟨#[.pointer (some bc),c1,c2,c3,c4,c5,.pointer (some Bx),c7,c8,c9,c10,TO,W0,St,Rr,RE,RK,SO,Se,Sf,To,Wg,aE,Wr,ZD,UP,US,ab,ao,fa,dj,dq,eS,fs,gE,ff,fi,fb,gn,iS,mx,qS,qe,nF,o4,oE,oR,qk,oS,pe,ph,pr,pt,qv,rl,rm,rn],[]⟩ w:=by
 conv=>arg 2;whnf
 have vh:=aq hx;have hS:∀w':World,Below w.1.size w w'->(w'.cell? (Tac Bx 1)=some (.string nm)/\OF w' bc g a):=fun w' e=>by
  have h2:=(e.block bc vh).trans hx;exact⟨(e.cell (p:=⟨Bx,1,none⟩) PX).trans hn,cr h2 _ _ rfl,cr h2 _ _ rfl,cr h2 _ _ rfl,cr h2 _ _ rfl,cr h2 _ _ rfl,cr h2 _ _ rfl,cr h2 _ _ rfl,cr h2 _ _ rfl,cr h2 _ _ rfl⟩
 have HS:=aa hS;clear hS;have Rj:Hid (∀W:World,Below w.1.size w W->dN (fun k=>ok k/\k<w.1.size) W g a):=aa fun W hb=>hg.mv ⟨hb.size,fun k hk ho=>⟨⟨ho,hk⟩,hb.block k hk⟩⟩;have HZ:=aa hz;clear hz hg hx hn
 have hC:∀W:World,Below w.1.size w W->Calls prog 27 #[.agg (Tad g a),.string nm] W fun e w'=>∃(tp:Option Addr) (tc:Nat),e=.returned (.tuple #[.agg (Tai x tp tc),Tz])/\aO (fun k=>(ok k/\k<w.1.size)\/W.1.size<=k) w' [.string x.name,.int .u64 x.id,.int .i64 x.first,.int .i64 x.Gc,.bool x.closed,.bool x.missing,.slice tp x.tags.length tc] x/\Below W.1.size W w':=fun W hb=>by
  exact Tbj
 have HC:=aa hC;clear hC Yh N3;refine aL (fun w'=>w'.cell? (Tac Bx 1)=some (.string nm)/\OF w' bc g a) 13 [] Tc3 (HS.o _ (bj _ _).drew) (fun hHeld=>?_);exact TaY
def jw(g:af)(s:aB):Bool:=s.Ga.all (fun r=>r.vol||(bH g.Gb r.on).isSome)&&(dD s true).all (fun nm=>(aM g.F9 nm).isSome)
def oL(s:aB)(pool:Bool)(h:s.Ga.length<=1000000):(dD s pool).length<=1000002:=by
 unfold dD;have:=tk (·.vol) s.Ga;rw[cD,cD,fW];cases s.log.toList.isEmpty<;>cases (pool&&s.kind==6)<;>simp<;>omega
def bX(w:World)(bc sm:Nat)(g:af)(a:bN):Prop:=w.1[bc]?=some (.cells #[g.name,.int .u64 g.id,.int .i64 g.seq,.int .i64 g.Gd,.int .i64 g.next,.slice a.tp g.tags.length a.tc,.slice a.dp g.Gb.length a.dc,.slice a.vp g.F9.length a.vc,.slice a.hp g.history.length a.hc,.map (some sm)] 156 (0,0))
def bX.cells{bc sm:Nat}{g:af}{a:bN}(h:bX w bc sm g a):w.cell? bc=some (.string g.name)/\w.cell? (Tac bc 1)=some (.int .u64 g.id)/\w.cell? (Tac bc 2)=some (.int .i64 g.seq)/\w.cell? (Tac bc 3)=some (.int .i64 g.Gd)/\w.cell? (Tac bc 4)=some (.int .i64 g.next) /\
  w.cell? (Tac bc 5)=some (.slice a.tp g.tags.length a.tc)/\w.cell? (Tac bc 6)=some (.slice a.dp g.Gb.length a.dc)/\w.cell? (Tac bc 7)=some (.slice a.vp g.F9.length a.vc)/\w.cell? (Tac bc 8)=some (.slice a.hp g.history.length a.hc):=by
 have h:w.1[bc]?=_:=h;exact⟨cr h _ _ rfl,cr h _ _ rfl,cr h _ _ rfl,cr h _ _ rfl,cr h _ _ rfl,cr h _ _ rfl,cr h _ _ rfl,cr h _ _ rfl,cr h _ _ rfl⟩
def dM(vn:ByteArray)(vd:List UInt8)(on:ByteArray):Bool:=pV on ⟨(iK vn.data.toList vd).1.toArray⟩ (iK vn.data.toList vd).2
structure VS(ok:Nat->Prop)(w:World)(bv bs:Nat)(v:ay)(s:aB):Prop where
 bx:∃u,w.heap[bv]?=some (.cells u.toArray 68 (0,0))/\aN ok w u v
 sx:∃u,w.heap[bs]?=some (.cells u.toArray 114 (0,0))/\bC ok w u s
def qC{ok:Nat->Prop}(Vy:Bool)(v:ay)(s:aB)(k:Nat)(n:Int)(r:aR)(bv bs:Nat)(w:World)(h:VS ok w bv bs v s)(hr:s.Ga[k]?=some r)(hS:AW w)(XP:v.name.size<=1000000000) :
  Calls prog 181 #[.int .i64 k,if Vy then .func (.func 183) #[] #[] else .func (.func 184) #[] #[],.int .i64 n,.pointer (some bv),.pointer (some bs)] w fun e w'=>e=.returned (.bool (dM v.name (if Vy then bq n else dH n) r.on))/\Below w.1.size w w':=by
 obtain⟨⟨u1,a5,a7⟩,⟨u2,hb2,a8⟩⟩:=h;obtain⟨tv,sv,rfl,_,_⟩:=a7;obtain⟨av,Oz,rfl,mC,_⟩:=a8;obtain⟨ap,ac,rfl,a9,ab⟩:=mC.cap;have c0:=cr a5 0 _ rfl;have gO:=aq hb2;have Vk:k<s.Ga.length:=(AT.1 hr).1;obtain⟨b,off,us,rfl,_,cX,ez,eE,ON⟩:=mC.elem hr;obtain rfl:us=_:=eE;have hq:=ON 1 _ rfl;have HQ:=aa hq;have cm:=aa hb2;have HS:=aa hS;have hn2:v.name.data.toList.length<=1000000000:=by simpa using XP
 clear a5 hb2 mC hr ON ez hS;cases Vy with
 |true =>
  have HC:=aa (Ea v.name.data.toList n w hn2 HS.o);rw[<- bytes_eta]at HC;simp only[ej];go_enter func181,ntmps181
  go_wp2_with fail;refine HC.o.mono ?_;rintro e w1 ⟨rfl,a5⟩;have cU:=aa a5;have h3:w1.cell? (Tac bs 3)=some (.slice (some (b,off)) s.Ga.length ac):=(a5.cell (p:=⟨bs,3,none⟩) gO).trans (by simp[AN,cm.o]);have q1:=(a5.cell (p:=⟨b,off+k*3+1,none⟩) cX).trans HQ.o;clear a5;go_wp2_with fail;refine(mJ _ _ _ _).mono ?_;rintro e w2 ⟨rfl,rfl⟩;go_wp2;go_ret;exact⟨rfl,cU.o⟩
 |false =>
  have HC:=aa (wC v.name.data.toList n w hn2 HS.o);rw[<- bytes_eta]at HC;simp only[pj,fY];go_enter func181,ntmps181
  go_wp2_with fail;refine HC.o.mono ?_;rintro e w1 ⟨rfl,a5⟩;have cU:=aa a5;have h3:w1.cell? (Tac bs 3)=some (.slice (some (b,off)) s.Ga.length ac):=(a5.cell (p:=⟨bs,3,none⟩) gO).trans (by simp[AN,cm.o]);have q1:=(a5.cell (p:=⟨b,off+k*3+1,none⟩) cX).trans HQ.o;clear a5;go_wp2_with fail;refine(mJ _ _ _ _).mono ?_;rintro e w2 ⟨rfl,rfl⟩;go_wp2;go_ret;exact⟨rfl,cU.o⟩
def rR{ok:Nat->Prop}(v:ay)(s:aB)(k:Nat)(n:Int)(r:aR)(bv bs:Nat)(w:World)(h:VS ok w bv bs v s)(hr:s.Ga[k]?=some r)(hS:AW w)(XP:v.name.size<=1000000000) :
  Calls prog 181 #[.int .i64 k,.func (.func 183) #[] #[],.int .i64 n,.pointer (some bv),.pointer (some bs)] w fun e w'=>e=.returned (.bool (dM v.name (bq n) r.on))/\Below w.1.size w w' :=
 qC true v s k n r bv bs w h hr hS XP
def kg{ok:Nat->Prop}(v:ay)(s:aB)(k:Nat)(n:Int)(r:aR)(bv bs:Nat)(w:World)(h:VS ok w bv bs v s)(hr:s.Ga[k]?=some r)(hS:AW w)(XP:v.name.size<=1000000000) :
  Calls prog 181 #[.int .i64 k,.func (.func 184) #[] #[],.int .i64 n,.pointer (some bv),.pointer (some bs)] w fun e w'=>e=.returned (.bool (dM v.name (dH n) r.on))/\Below w.1.size w w' :=
 qC false v s k n r bv bs w h hr hS XP
def vU(v:ay)(s:aB):Bool:=(FF s.Ga.length).all fun k=>dM v.name (bq k) ((s.Ga.map (·.on)).getD k ⟨#[]⟩)
def jS(v:ay)(s:aB):Bool :=
 if s.kind=3\/s.kind=4 then vU v s&&(s.log.toList.isEmpty||dM v.name (dH 1) s.log)
 else if s.kind=5 then dM v.name (dH 3) ((s.Ga.map (·.on)).getD 0 ⟨#[]⟩)&&dM v.name (dH 2) ((s.Ga.map (·.on)).getD 1 ⟨#[]⟩)
 else if s.kind=7 then dM v.name (bq 0) ((s.Ga.map (·.on)).getD 0 ⟨#[]⟩)&&dM v.name (dH 2) ((s.Ga.map (·.on)).getD 1 ⟨#[]⟩)&&dM v.name (dH 3) ((s.Ga.map (·.on)).getD 2 ⟨#[]⟩)
 else true
def uD{r:aR}(h:l[k]?=some r):(l.map (·.on)).getD k ⟨#[]⟩=r.on:=by simp[h]
def VS.below{ok:Nat->Prop}{bv bs:Nat}(h:VS ok w bv bs v s)(hb:Below w.1.size w w'):VS ok w' bv bs v s:=by
 obtain⟨⟨u1,a5,a7⟩,⟨u2,hb2,a8⟩⟩:=h;exact⟨⟨u1,(hb.block _ (aq a5)).trans a5,aN.moves.mv (Mv.of hb) a7⟩,⟨u2,(hb.block _ (aq hb2)).trans hb2,bC.moves.mv (Mv.of hb) a8⟩⟩
def pI{ok:Nat->Prop}(Q:Exit->Act->World->Prop){c0 c4 c8 c10:Value}(w:World)(g:af)(a:bN)(bc sm Bx:Nat)(nm:ByteArray)(Bc:Nat)(Hh:Bc<w.1.size)(a5:w.cell? Bc=some (.pointer (some bc)))(hx:w.1[bc]?=some (.cells #[g.name,.int .u64 g.id,.int .i64 g.seq,.int .i64 g.Gd,.int .i64 g.next,.slice a.tp g.tags.length a.tc,.slice a.dp g.Gb.length a.dc,.slice a.vp g.F9.length a.vc,.slice a.hp g.history.length a.hc,.map (some sm)] 156 (0,0)))(hn:w.cell? (Tac Bx 1)=some (.string nm))(PX:Bx<w.1.size)
  (hg:dN ok w g a) (hz:JT g) (x:az) (Tz:Bool) (Yh:(bH g.Gb nm).getD gT=x) (N3:(bH g.Gb nm).isSome=Tz)
  (HK:Hid (∀(tp:Option Addr) (tc:Nat) (b:Nat) (W':World),Below w.1.size w W'->w.1.size<=b->W'.1[b]?=some (.cells (Tai x tp tc) 51 (0,0))->aO (fun k=>(ok k/\k<w.1.size)\/(w.1.size<=k/\k≠b)) W' [.string x.name,.int .u64 x.id,.int .i64 x.first,.int .i64 x.Gc,.bool x.closed,.bool x.missing,.slice tp x.tags.length tc] x->Q .normal ⟨#[c0,c1,.pointer (some Bc),c3,c4,c5,c6,.pointer (some Bx),.pointer (some b),.bool Tz,c10,TO,W0,St,Rr,RE,RK,SO,Se,Sf,To,Wg,aE,Wr,ZD,UP,US,.tuple #[.agg (Tai x tp tc),Tz],.pointer (some bc),.pointer (some bc),.pointer (some bc),.agg (Tad g a),.pointer (some (Tac Bx 1)),.string nm,.tuple #[.agg (Tai x tp tc),Tz],.agg (Tai x tp tc),.bool Tz,fb,gn,iS,mx,qS,qe,nF,o4,oE,oR,qk,oS,pe,ph,pr,pt,qv,rl,rm,rn,sd,sh,ta,zd,zp,am,an,ax,b7,b8,ba,be,bf,cv,cw,cy,cB,d4,d5,d6,d7,d8,db,bn,bo,bp,br,bu,bA,bB,bL,ca,cb,cc,ce,cf,ch,ci,cl,cn,co,cp,cu,ke,lE,im,ka,lP,mT,mc,me],[]⟩ W'))
  (hQ:∀c (a:Act) (d:Tmp) (v:Value) w,Q (.panic c) (a.put (some d) v) w->Q (.panic c) a w) :
  (Ai Tryz.f145 6).wp prog Q ⟨#[c0,c1,.pointer (some Bc),c3,c4,c5,c6,.pointer (some Bx),c8,c9,c10,TO,W0,St,Rr,RE,RK,SO,Se,Sf,To,Wg,aE,Wr,ZD,UP,US,ab,ao,fa,dj,dq,eS,fs,gE,ff,fi,fb,gn,iS,mx,qS,qe,nF,o4,oE,oR,qk,oS,pe,ph,pr,pt,qv,rl,rm,rn,sd,sh,ta,zd,zp,am,an,ax,b7,b8,ba,be,bf,cv,cw,cy,cB,d4,d5,d6,d7,d8,db,bn,bo,bp,br,bu,bA,bB,bL,ca,cb,cc,ce,cf,ch,ci,cl,cn,co,cp,cu,ke,lE,im,ka,lP,mT,mc,me],[]⟩ w:=by
 conv=>arg 2;whnf
 have vh:=aq hx;have hS:∀w':World,Below w.1.size w w'->(w'.cell? (Tac Bx 1)=some (.string nm)/\OK w' bc g a (w'.cell? Bc=some (.pointer (some bc)))):=fun w' e=>by
  have h2:=(e.block bc vh).trans hx;exact⟨(e.cell (p:=⟨Bx,1,none⟩) PX).trans hn,cr h2 _ _ rfl,cr h2 _ _ rfl,cr h2 _ _ rfl,cr h2 _ _ rfl,cr h2 _ _ rfl,cr h2 _ _ rfl,cr h2 _ _ rfl,cr h2 _ _ rfl,cr h2 _ _ rfl,(e.cell (p:=Bc) Hh).trans a5⟩
 have HS:=aa hS;clear hS;have Rj:Hid (∀W:World,Below w.1.size w W->dN (fun k=>ok k/\k<w.1.size) W g a):=aa fun W hb=>hg.mv ⟨hb.size,fun k hk ho=>⟨⟨ho,hk⟩,hb.block k hk⟩⟩;have HZ:=aa hz;clear hz hg hx hn a5
 have hC:∀W:World,Below w.1.size w W->Calls prog 27 #[.agg (Tad g a),.string nm] W fun e w'=>∃(tp:Option Addr) (tc:Nat),e=.returned (.tuple #[.agg (Tai x tp tc),Tz])/\aO (fun k=>(ok k/\k<w.1.size)\/W.1.size<=k) w' [.string x.name,.int .u64 x.id,.int .i64 x.first,.int .i64 x.Gc,.bool x.closed,.bool x.missing,.slice tp x.tags.length tc] x/\Below W.1.size W w':=fun W hb=>by
  exact Tbj
 have HC:=aa hC;clear hC Yh N3;refine aL (fun w'=>w'.cell? (Tac Bx 1)=some (.string nm)/\OK w' bc g a (w'.cell? Bc=some (.pointer (some bc)))) 13 [] Tc3 (HS.o _ (bj _ _).drew) (fun hHeld=>?_);exact TaY
def oG{ok:Nat->Prop}(Q:Exit->Act->World->Prop){c0 c7 c8 c10:Value}(w:World)(g:af)(a:bN)(bc sm Bx:Nat)(nm:ByteArray)(Bc:Nat)(Hh:Bc<w.1.size)(ag:w.cell? Bc=some (.pointer (some bc)))(hx:w.1[bc]?=some (.cells #[g.name,.int .u64 g.id,.int .i64 g.seq,.int .i64 g.Gd,.int .i64 g.next,.slice a.tp g.tags.length a.tc,.slice a.dp g.Gb.length a.dc,.slice a.vp g.F9.length a.vc,.slice a.hp g.history.length a.hc,.map (some sm)] 156 (0,0)))(hn:w.cell? (Tac Bx 7)=some (.string nm))(PX:Bx<w.1.size)
  (hg:dN ok w g a) (hz:JT g) (x:ay) (Tz:Bool) (Yh:(aM g.F9 nm).getD eY=x) (N3:(aM g.F9 nm).isSome=Tz)
  (HK:Hid (∀(tp:Option Addr) (tc:Nat) (sp:Option Addr) (sc:Nat) (b:Nat) (W':World),Below w.1.size w W'->w.1.size<=b->W'.1[b]?=some (.cells (Tah x tp tc sp sc) 68 (0,0))->aN (fun k=>(ok k/\k<w.1.size)\/(w.1.size<=k/\k≠b)) W' [.string x.name,.int .u64 x.id,.bool x.hidden,.bool x.ro,.slice tp x.tags.length tc,.slice sp x.Gf.length sc] x->Q .normal ⟨#[c0,c1,.pointer (some Bc),c3,.pointer (some Bx),c5,c6,c7,c8,c9,.pointer (some b),.bool Tz,W0,St,Rr,RE,RK,SO,Se,Sf,To,Wg,aE,Wr,ZD,UP,US,ab,ao,fa,dj,dq,eS,fs,gE,ff,fi,fb,gn,iS,mx,qS,qe,nF,o4,oE,oR,qk,oS,pe,ph,pr,pt,qv,rl,rm,rn,sd,sh,ta,zd,zp,am,an,ax,b7,b8,ba,be,bf,.tuple #[.agg (Tah x tp tc sp sc),Tz],.pointer (some bc),.pointer (some bc),.pointer (some bc),.agg (Tad g a),.pointer (some (Tac Bx 7)),.string nm,.tuple #[.agg (Tah x tp tc sp sc),Tz],.agg (Tah x tp tc sp sc),.bool Tz,bn,bo,bp,br,bu,bA,bB,bL,ca,cb,cc,ce,cf,ch,ci,cl,cn,co,cp,cu,ke,lE,im,ka,lP,mT,mc,me],[]⟩ W'))
  (hQ:∀c (a:Act) (d:Tmp) (v:Value) w,Q (.panic c) (a.put (some d) v) w->Q (.panic c) a w) :
  (Ai Tryz.f145 13).wp prog Q ⟨#[c0,c1,.pointer (some Bc),c3,.pointer (some Bx),c5,c6,c7,c8,c9,c10,TO,W0,St,Rr,RE,RK,SO,Se,Sf,To,Wg,aE,Wr,ZD,UP,US,ab,ao,fa,dj,dq,eS,fs,gE,ff,fi,fb,gn,iS,mx,qS,qe,nF,o4,oE,oR,qk,oS,pe,ph,pr,pt,qv,rl,rm,rn,sd,sh,ta,zd,zp,am,an,ax,b7,b8,ba,be,bf,cv,cw,cy,cB,d4,d5,d6,d7,d8,db,bn,bo,bp,br,bu,bA,bB,bL,ca,cb,cc,ce,cf,ch,ci,cl,cn,co,cp,cu,ke,lE,im,ka,lP,mT,mc,me],[]⟩ w:=by
 conv=>arg 2;whnf
 have vh:=aq hx;have hS:∀w':World,Below w.1.size w w'->(w'.cell? (Tac Bx 7)=some (.string nm)/\OK w' bc g a (w'.cell? Bc=some (.pointer (some bc)))):=fun w' e=>by
  have h2:=(e.block bc vh).trans hx;exact⟨(e.cell (p:=⟨Bx,7,none⟩) PX).trans hn,cr h2 _ _ rfl,cr h2 _ _ rfl,cr h2 _ _ rfl,cr h2 _ _ rfl,cr h2 _ _ rfl,cr h2 _ _ rfl,cr h2 _ _ rfl,cr h2 _ _ rfl,cr h2 _ _ rfl,(e.cell (p:=Bc) Hh).trans ag⟩
 replace hS:=aa hS;have Rj:Hid (∀W:World,Below w.1.size w W->dN (fun k=>ok k/\k<w.1.size) W g a):=aa fun W hb=>hg.mv ⟨hb.size,fun k hk ho=>⟨⟨ho,hk⟩,hb.block k hk⟩⟩;replace hz:=aa hz;clear hg hx hn ag
 have hC:∀W:World,Below w.1.size w W->Calls prog 58 #[.agg (Tad g a),.string nm] W fun e w'=>∃(tp:Option Addr) (tc:Nat) (sp:Option Addr) (sc:Nat),e=.returned (.tuple #[.agg (Tah x tp tc sp sc),Tz])/\aN (fun k=>(ok k/\k<w.1.size)\/W.1.size<=k) w' [.string x.name,.int .u64 x.id,.bool x.hidden,.bool x.ro,.slice tp x.tags.length tc,.slice sp x.Gf.length sc] x/\Below W.1.size W w':=fun W hb=>by
  refine(fA g a nm W (ok:=fun k=>ok k/\k<w.1.size) (dN.F9 (Rj.o W hb)) hz.o.vl hz.o.vz).mono ?_;rintro e w' ⟨u,rfl,hv,ah⟩;rw[Yh]at hv;rw[N3];obtain⟨t,u,rfl,ht,hu⟩:=hv;obtain⟨tp,tc,rfl,_,_⟩:=ht.cap;obtain⟨sp,sc,rfl,_,_⟩:=hu.cap;have sA:aN _ w' _ _:=⟨_,_,rfl,ht,hu⟩;exact⟨_,_,_,_,rfl,sA,ah⟩
 replace hC:=aa hC;clear Yh N3;refine aL (fun w'=>w'.cell? (Tac Bx 7)=some (.string nm)/\OK w' bc g a (w'.cell? Bc=some (.pointer (some bc)))) 13 [] Tc3 (hS.o _ (bj _ _).drew) (fun a5=>?_);refine cH hQ 0 a5 ?_;refine cH hQ 1 a5 ?_;refine cH hQ 2 a5 ?_;refine cH hQ 3 a5 ?_;refine cH hQ 4 a5 ?_;refine cH hQ 5 a5 ?_;refine mh (i:=6) (j:=10) rfl rfl rfl rfl Tc3 (fun K hK=>?_) (fun K hK=>?_)
 ·go_simp;refine(hC.o _ (bj _ _).drew).mono ?_;rintro e w1 ⟨tp,tc,sp,sc,rfl,a9,a8⟩;have a7:Below w.1.size w w1:=⟨a8.os,a8.tape,a8.output,a8.size,a8.block⟩;refine hK.o _ _ (hS.o _ a7) ?_;clear hK K a5;have a5:=hS.o _ a7;replace a9:=aa a9;clear a8;replace a7:=aa a7;refine cH hQ 7 a5 ?_;refine cH hQ 8 a5 ?_;refine cH hQ 9 a5 ?_;refine lR 10 fun K hK=>?_;go_simp;have hb2:Below w.1.size w (w1.alloc (.cells Tak 68)):=a7.o.alloc a7.o.size _;refine hK.o _ _ (hS.o _ hb2) ?_;clear hK K a5;have gh:=b9 w1 (.cells Tak 68);have gO:w1.1.size<(w1.alloc (.cells Tak 68)).1.size:=by simp
  have ae:aN (fun k=>(ok k/\k<w.1.size)\/(w.1.size<=k/\k<w1.1.size)) (w1.alloc (.cells Tak 68)) [.string x.name,.int .u64 x.id,.bool x.hidden,.bool x.ro,.slice tp x.tags.length tc,.slice sp x.Gf.length sc] x:=aN.moves.mv ⟨Tc2,fun k hk ho=>⟨ho.imp id (fun q=>⟨q,hk⟩),cj _ _ _ hk⟩⟩ a9.o;have mA:=a7.o.size;generalize ai:AI w1 _=W2 at *;generalize aj:w1.1.size=b0 at *;clear ai aj a9 a7;have Vn:=aa ae;clear ae;obtain⟨zf,z0,z1,z2,z3,z4,z5⟩:=BO gh;obtain⟨sb,sk,so⟩:=zQ gh (.string x.name) (.int .u64 x.id) (.bool x.hidden) (.bool x.ro) (.slice tp x.tags.length tc) (.slice sp x.Gf.length sc) _ rfl;have cJ:=aa (sb _ _ mA hb2);have F2:=aa sk;have QW:=aa so;clear sb sk so gh;refine lR 11 fun K hK=>?_;go_simp;refine hK.o _ _ (hS.o _ cJ.o) ?_;clear hK K;refine lR 12 fun K hK=>?_;go_simp;refine hK.o _ _ (hS.o _ cJ.o) ?_;clear hK K;refine aP Tc3 rfl ?_;simp only[cQ,km,cL];refine HK.o _ _ _ _ b0 _ cJ.o mA F2.o (aN.moves.mv ⟨Tdd,fun k hk ho=>⟨?_,?_⟩⟩ Vn.o)
  ·exact TcY
  exact TcX
 go_simp;have hb2:Below w.1.size w (w.drew.alloc (.cells Tak 68)):=((bj _ _).drew).alloc (bk _) _;refine hK.o _ _ (hS.o _ hb2) ?_;clear hK K a5;have a5:=hS.o _ hb2;refine lR 6 fun K hK=>?_;go_simp;refine(hC.o _ hb2).mono ?_;rintro e w1 ⟨tp,tc,sp,sc,rfl,a9,a8⟩;have a7:Below w.1.size w w1:=hb2.trans (a8.mono hb2.size);refine hK.o _ _ (hS.o _ a7) ?_;clear hK K a5;have a5:=hS.o _ a7;have gh:=(a8.block _ Tc2).trans (b9 w.drew (.cells Tak 68));have ae:aN (fun k=>(ok k/\k<w.1.size)\/(w.1.size<=k/\w.1.size<k)) w1 [.string x.name,.int .u64 x.id,.bool x.hidden,.bool x.ro,.slice tp x.tags.length tc,.slice sp x.Gf.length sc] x:=aN.moves.mv ⟨bk _,fun k hk ho=>⟨ho.imp id (fun q=>by simp at q;omega),rfl⟩⟩ a9;have mA:w.1.size<=w.1.size:=bk _;have gh:w1.1[w.1.size]?=some (.cells Tak 68 (0,0)):=gh;clear hb2;have hb2:=a7;clear a9 a8 a7;generalize w1=W2 at *;refine cH hQ 7 a5 ?_;refine cH hQ 8 a5 ?_;refine cH hQ 9 a5 ?_;have Vn:=aa ae;clear ae;obtain⟨zf,z0,z1,z2,z3,z4,z5⟩:=BO gh;obtain⟨sb,sk,so⟩:=zQ gh (.string x.name) (.int .u64 x.id) (.bool x.hidden) (.bool x.ro) (.slice tp x.tags.length tc) (.slice sp x.Gf.length sc) _ rfl;have cJ:=aa (sb _ _ mA hb2);have F2:=aa sk;have QW:=aa so;clear sb sk so gh;refine lR 11 fun K hK=>?_;go_simp;refine hK.o _ _ (hS.o _ cJ.o) ?_;clear hK K;refine lR 12 fun K hK=>?_;go_simp;refine hK.o _ _ (hS.o _ cJ.o) ?_;clear hK K;refine aP Tc3 rfl ?_;simp only[cQ,km,cL];refine HK.o _ _ _ _ w.1.size _ cJ.o mA F2.o (aN.moves.mv ⟨Tdd,fun k hk ho=>⟨?_,?_⟩⟩ Vn.o)
 ·exact TcY
 exact TcX
structure wM(s:aB):Prop where
 l0:1<=s.length
 l1:s.length<=32768
 ar:s.Ga.length<=6
 p5:s.kind=5->2<=s.Ga.length
 p7:s.kind=7->3<=s.Ga.length
def fI(g:af)(s:aB)(r:aR):Bool:=r.vol||(decide (0<=r.start)&&decide (r.start<=((bH g.Gb r.on).getD gT).Gc)&&decide (iB s.kind s.length s.Ga.length<=((bH g.Gb r.on).getD gT).Gc-r.start))
def dh(g:af)(nm:ByteArray):Bool:=eZ ((aM g.F9 nm).getD eY)==6||eZ ((aM g.F9 nm).getD eY)==5
def mM(g:af)(v:ay)(s:aB):Int :=
 if jw g s=false then 12 else if s.Ga.all (fI g s)=false then 1 else if jS v s=false then 10 else if s.kind=6/\¬eZ ((aM g.F9 s.pool).getD eY)=5 then 17
 else if(dD s false).any (dh g)=true then 17 else 0
def zV{k l:Int}(h0:0<=l):0<=iB k l n/\iB k l n<=l:=by
 unfold iB;split
 ·exact⟨lz h0 Tc1,mS _ h0⟩
 omega
def Da{Gb:List az}(h:∀d∈Gb,0<=d.Gc/\d.Gc<=1000000):0<=((bH Gb nm).getD gT).Gc/\((bH Gb nm).getD gT).Gc<=1000000:=by
 cases hf:bH Gb nm with
 |none=>simp[gT]
 |some d=>exact h d (eV hf)
def aA(F9:List ay):List (ay × aB):=F9.flatMap fun v=>v.Gf.map fun s=>(v,s)
def bD(E:List (ay × aB)->ay->aB->Int):List (ay × aB)->List (ay × aB)->ByteArray × Int
 |_,[]=>(⟨#[]⟩,0)
 |pre,(v,s) :: r=>if E pre v s=0 then bD E (pre++[(v,s)]) r else(v.name,E pre v s)
def xB(F9:List ay)(k:Nat)(v:ay)(h:F9[k]?=some v):aA (F9.take (k+1))=aA (F9.take k)++v.Gf.map (fun s=>(v,s)):=by
 rw[take_snoc' F9 k v h];simp[aA]
def vI(F9:List ay)(k:Nat)(v:ay)(h:F9[k]?=some v)(j:Nat)(s:aB)(hs:v.Gf[j]?=some s) :
  aA F9=(aA (F9.take k)++(v.Gf.take j).map (fun s=>(v,s)))++(v,s) :: ((v.Gf.drop (j+1)).map (fun s=>(v,s))++aA (F9.drop (k+1))):=by
 obtain⟨hk,hv⟩:=AT.1 h;obtain⟨hj,a5⟩:=AT.1 hs;conv=>lhs;rw[<- rk k F9,tB hk,hv]
 have e:v.Gf=v.Gf.take j++s :: v.Gf.drop (j+1):=by
  conv=>lhs;rw[<- rk j v.Gf,tB hj,a5]
 unfold aA;rw[xt,lB];conv=>lhs;rw[e]
 simp
def Mv.mod{ok F:Nat->Prop}(hm:cR F w w')(hF:∀k,F k->¬ok k):Mv ok ok w w':=⟨hm.size,fun b hb ho=>⟨ho,hm.block b hb (fun f=>hF b f ho)⟩⟩
def fV(F9:List ay)(k j:Nat)(v:ay):List (ay × aB):=(v.Gf.drop j).map (fun s=>(v,s))++aA (F9.drop (k+1))
def bW(F9:List ay)(k j:Nat)(v:ay):List (ay × aB):=aA (F9.take k)++(v.Gf.take j).map (fun s=>(v,s))
def eQ(F9:List ay)(k:Nat)(v:ay):bW F9 k 0 v=aA (F9.take k):=by simp[bW]
def fG(F9:List ay)(k j:Nat)(v:ay)(s:aB)(hs:v.Gf[j]?=some s):bW F9 k (j+1) v=bW F9 k j v++[(v,s)]:=by
 unfold bW;rw[take_snoc' v.Gf j s hs];simp
def fJ(F9:List ay)(k:Nat)(v:ay)(h:F9[k]?=some v):bW F9 k v.Gf.length v=aA (F9.take (k+1)):=by
 unfold bW;rw[cI,xB F9 k v h]
def jB(F9:List ay)(k j:Nat)(v:ay)(s:aB)(h:F9[k]?=some v)(hs:v.Gf[j]?=some s):aA F9=bW F9 k j v++(v,s) :: fV F9 k (j+1) v:=vI F9 k v h j s hs
def jZ{pre post:List (ay × aB)}(h:aA F9=pre++(v,s) :: post):v∈F9/\s∈v.Gf:=by
 have:(v,s)∈aA F9:=by rw[h];simp
 obtain⟨v',hv,hs⟩:=BY.1 this;obtain⟨s',a5,e⟩:=As.1 hs;injection e with e1 e2;subst e1;subst e2;exact⟨hv,a5⟩
def cR.none(h:cR (fun _=>False) w w'):Below w.1.size w w':=h.below (bk _) (fun _ f=>f.elim)
structure UQ(g:af):Prop where
 sz:JT g
 de:∀d∈g.Gb,0<=d.Gc/\d.Gc<=1000000
 ext:1<=g.Gd/\g.Gd<=1024
 vn:∀v∈g.F9,v.name.size<=1000000000
 sf:∀v∈g.F9,∀s∈v.Gf,wM s
def mY(g:af):ByteArray × Int:=bD (fun _ v s=>mM g v s) [] (aA g.F9)
def qV(ext:Int)(n:Nat):List aB->Int->Int
 |[],_=>0
 |s :: r,st=>if bJ ext s st=false then 2 else if 1<n/\(oO s.kind).several=false then 17 else qV ext n r (st+s.length)
def iM(f:ay->Int):List ay->ByteArray × Int
 |[]=>(⟨#[]⟩,0)
 |v :: r=>if f v=0 then iM f r else(v.name,f v)
def DW(g:af)(v:ay):Int:=qV g.Gd v.Gf.length v.Gf 0
def iP(g:af):ByteArray × Int:=iM (DW g) g.F9
def drop_at{l:List α}{x:α}(h:l[k]?=some x):l.drop k=x :: l.drop (k+1):=by
 obtain⟨hk,rfl⟩:=AT.1 h;exact tB hk
def CP{ext:Int}{l:List aB}(h:l[k]?=some s)(st:Int):qV ext n (l.drop k) st=if bJ ext s st=false then 2 else if 1<n/\(oO s.kind).several=false then 17 else qV ext n (l.drop (k+1)) (st+s.length):=by
 rw[drop_at h];rfl
def vw(x:eX)(w:World):(Instr.field 192 (.agg (Tan x)) 3).run prog w=.ok (.bool x.several) w:=by kernel_rfl
def Ct(g:af):Prop:=∀v∈g.F9,∀s∈v.Gf,(Lit.int .i64 s.kind).wf=true
def cR.grown(g:w.grownBy w' (some b)):cR (fun k=>k=b) w w':=⟨g.os,g.tape,g.output,g.size,fun k hk hne=>g.block k hk (fun e=>hne (by injection e))⟩
def tkB(M:List (ByteArray × Int × Int))(nm:ByteArray)(i:Nat):Bool:=M.any fun m=>decide (m.1=nm)&&(decide (m.2.1<=(i:Int))&&decide ((i:Int)<m.2.1+m.2.2))
def bz(M:List (ByteArray × Int × Int))(d:az):List Bool:=(FF d.Gc.toNat).map (tkB M d.name)
def tV(M:List (ByteArray × Int × Int))(nm:ByteArray)(st n:Int):Bool:=(FF n.toNat).any fun j=>tkB M nm (st.toNat+j)
def nP(n:Int):List (ByteArray × Int × Int)->List aR->Bool
 |_,[]=>false
 |M,a :: r=>if a.vol=true then nP n M r else if tV M a.on a.start n=true then true else nP n (M++[(a.on,a.start,n)]) r
def dC(n:Int)(l:List aR):List (ByteArray × Int × Int):=(l.filter fun a=>!a.vol).map fun a=>(a.on,a.start,n)
def aX(s:aB):Int:=iB s.kind s.length s.Ga.length
def lU(pre:List (ay × aB)):List (ByteArray × Int × Int):=pre.flatMap fun p=>dC (aX p.2) p.2.Ga
def CQ(pre:List (ay × aB))(_:ay)(s:aB):Int:=if nP (aX s) (lU pre) s.Ga=true then 15 else 0
def IW(pre:List (ay × aB))(_:ay)(s:aB):Int:=if s.kind=6 then(if pre.any (fun p=>decide (p.2.kind=6)&&(decide (p.2.pool=s.pool)&&decide (p.2.device=s.device)))=true then 9 else 0) else 0
def pE(g:af):ByteArray × Int:=if(bD CQ [] (aA g.F9)).2=0 then bD IW [] (aA g.F9) else bD CQ [] (aA g.F9)
def nO(M:List (ByteArray × Int × Int))(m:ByteArray × Int × Int)(nm:ByteArray)(i:Nat):tkB (M++[m]) nm i=(tkB M nm i||(decide (m.1=nm)&&(decide (m.2.1<=(i:Int))&&decide ((i:Int)<m.2.1+m.2.2)))):=by
 unfold tkB;rw[rj];simp
def gP(M:List (ByteArray × Int × Int))(d:az):(bz M d).length=d.Gc.toNat:=by simp[bz]
def gU{M:List (ByteArray × Int × Int)}{i:Nat}(h:i<d.Gc.toNat):(bz M d)[i]?=some (tkB M d.name i):=by simp[bz,h]
def lQ(M:List (ByteArray × Int × Int))(d:az)(m:ByteArray × Int × Int)(h:¬m.1=d.name):bz (M++[m]) d=bz M d:=by
 unfold bz;refine List.map_congr_left fun i _=>?_;rw[nO];simp[h]
def vQ(M:List (ByteArray × Int × Int))(d:az)(nm:ByteArray)(st:Int):bz (M++[(nm,st,0)]) d=bz M d:=by
 unfold bz;refine List.map_congr_left fun i _=>?_;rw[nO]
 have:(decide (st<=(i:Int))&&decide ((i:Int)<st+0))=false:=by
  rw[<- Bool.decide_and];exact cN Tc1
 simp only[this,Bool.and_false,Bool.or_false]
def xH(M:List (ByteArray × Int × Int))(d:az)(st:Int)(j:Nat)(h0:0<=st):(bz (M++[(d.name,st,(j:Int))]) d).set (st.toNat+j) true=bz (M++[(d.name,st,((j+1:Nat):Int))]) d:=by
 refine Bk fun i=>?_;rw[List.getElem?_set]
 by_cases hi:i<d.Gc.toNat
 ·rw[gU hi,gU hi,gP];rw[nO,nO];simp only[decide_true,Bool.true_and,<- Bool.decide_and];split
  ·rename_i e;subst e;rw[aw hi];have:decide (st<=((st.toNat+j:Nat):Int)/\((st.toNat+j:Nat):Int)<st+((j+1:Nat):Int))=true:=eA Tc1;rw[this,Bool.or_true]
  rename_i e;congr 1
  have:(st<=(i:Int)/\(i:Int)<st+(j:Int))↔(st<=(i:Int)/\(i:Int)<st+((j+1:Nat):Int)):=by omega
  simp only[this]
 have h1:∀M',(bz M' d)[i]?=none:=fun M'=>xj (by rw[gP];omega)
 rw[h1,h1,gP];split
 ·rename_i e;subst e;rw[bh hi]
 rfl
def D5(M:List (ByteArray × Int × Int))(d:az)(st n:Int)(h0:0<=st)(hn:0<=n)(h:st+n<=d.Gc):(((bz M d).drop st.toNat).take n.toNat).any id=tV M d.name st n:=by
 have e:((bz M d).drop st.toNat).take n.toNat=(FF n.toNat).map fun j=>tkB M d.name (st.toNat+j):=by
  refine Bk fun i=>?_;rw[xF]
  by_cases hi:i<n.toNat
  ·rw[aw hi,pk,gU Tc1];simp[hi]
  rw[bh hi];exact(xj (by rw[fW,List.length_range];omega)).symm
 rw[e];unfold tV;rw[List.any_map];rfl
def xC(n:Int)(l:List aR)(k:Nat)(a:aR)(h:l[k]?=some a):dC n (l.take (k+1))=if a.vol=true then dC n (l.take k) else dC n (l.take k)++[(a.on,a.start,n)]:=by
 rw[take_snoc' l k a h];unfold dC;cases hv:a.vol<;>simp[hv]
def Ee(n:Int)(M:List (ByteArray × Int × Int)){a:aR}(h:l[k]?=some a):nP n M (l.drop k)=if a.vol=true then nP n M (l.drop (k+1)) else if tV M a.on a.start n=true then true else nP n (M++[(a.on,a.start,n)]) (l.drop (k+1)):=by
 rw[drop_at h];rfl
def vG(L:List (az × Nat)):Value->Option Value
 |.string s=>(L.find? fun p=>decide (p.1.name=s)).map fun p=>.slice (some ⟨p.2,0,none⟩) p.1.Gc.toNat p.1.Gc.toNat
 |_=>none
def TdF{p:Prop}(h:p:=by rw[e]):p:=h
def Av(L:List (az × Nat))(d:az)(b:Nat)(h:∀p∈L,¬p.1.name=d.name)(key:Value):vG (L++[(d,b)]) key=upd (vG L) (.string d.name) (.slice (some b) d.Gc.toNat d.Gc.toNat) key:=by
 by_cases hk:key=.string d.name
 ·subst hk;rw[upd_same];show((L++[(d,b)]).find? fun p=>decide (p.1.name=d.name)).map _=_;rw[tD,List.find?_eq_none.2 (fun p hp=>by simpa using h p hp)];simp
 rw[bP hk];unfold vG;split
 ·rename_i s;have:¬d.name=s:=fun e=>hk TdF;rw[tD];simp[this]
 rfl
def Dv{L:List (az × Nat)}(h:bH (L.map (·.1)) nm=some d):∃b,(d,b)∈L/\d.name=nm/\vG L (.string nm)=some (.slice (some ⟨b,0,none⟩) d.Gc.toNat d.Gc.toNat):=by
 unfold bH at h;rw[List.find?_map]at h;obtain⟨p,hp,rfl⟩:=Option.map_eq_some_iff.1 h;refine⟨p.2,eV hp,by simpa using List.find?_some hp,?_⟩;have e:(fun p:az × Nat=>decide (p.1.name=nm))=((fun d:az=>decide (d.name=nm)) ∘ fun x:az × Nat=>x.1):=rfl;show(L.find? fun p=>decide (p.1.name=nm)).map _=_;rw[e,hp];rfl
def bI(l:List ByteArray)(x:ByteArray):Bool:=l.any fun y=>decide (y=x)
def ny{l:List ByteArray}:bI l x=true↔x∈l:=by
 unfold bI;rw[nh];exact⟨fun⟨y,hy,e⟩=>by rw[<- of_decide_eq_true e];exact hy,fun h=>⟨x,h,Tc2⟩⟩
def lX{l:List ByteArray}:bI l x=false↔x ∉ l:=by
 rw[<- ny];exact Bool.eq_false_iff
def fU(l:List ByteArray)(x y:ByteArray):bI (l++[x]) y=(bI l y||decide (x=y)):=by
 unfold bI;rw[rj];simp
def rQ(s:aB):List ByteArray:=((s.Ga.filter (·.vol)).map (·.on))++(if s.log.toList.isEmpty then [] else [s.log])++(if s.pool.toList.isEmpty then [] else [s.pool])
def kY(v:ay):List ByteArray:=v.Gf.flatMap rQ
def dU(F9:List ay)(nm:ByteArray):Option (List ByteArray):=(aM F9 nm).map kY
inductive Reach (lk:ByteArray->Option (List ByteArray))(l0:List ByteArray):ByteArray->Prop
 |base {x:ByteArray}:x∈l0->(lk x).isSome=true->Reach lk l0 x
 |step {x y:ByteArray} {l:List ByteArray}:Reach lk l0 y->lk y=some l->x∈l->(lk x).isSome=true->Reach lk l0 x
structure nX(lk:ByteArray->Option (List ByteArray))(l0 met todo:List ByteArray):Prop where
 m:∀x∈met,Reach lk l0 x
 t:∀x∈todo,(lk x).isSome=true->Reach lk l0 x
 b:∀x∈l0,(lk x).isSome=true->x∈met\/x∈todo
 c:∀y∈met,∀l,lk y=some l->∀x∈l,(lk x).isSome=true->x∈met\/x∈todo
variable {lk:ByteArray->Option (List ByteArray)}{l0 met todo:List ByteArray}
variable {x:ByteArray}{α:Type}
def nX.start:nX lk l0 [] l0:=⟨fun _ h=>absurd h Tc2,fun _ h hs=>Reach.base h hs,fun _ h _=>Or.inr h,fun _ h=>absurd h Tc2⟩
def nX.done(h:nX lk l0 met [])(x:ByteArray):x∈met↔Reach lk l0 x:=by
 refine⟨h.m x,fun r=>?_⟩;induction r with
 |base h1 h2=>exact(h.b _ h1 h2).elim id fun q=>by cases q
 |step _ h2 h3 h4 ih=>exact(h.c _ ih _ h2 _ h3 h4).elim id fun q=>by cases q
def nX.skip(h:nX lk l0 met (todo++[x]))(hx:(lk x).isSome=false\/x∈met):nX lk l0 met todo:=by
 have key:∀y,(lk y).isSome=true->y∈met\/y∈todo++[x]->y∈met\/y∈todo:=fun y hs q=>by
  rcases q with q|q
  ·exact .inl q
  rcases AS.1 q with q|q
  ·exact .inr q
  obtain rfl:=AM.1 q;rcases hx with e|e
  ·rw[e]at hs;cases hs
  exact .inl e
 exact⟨h.m,fun y hy=>h.t y (ju _ hy),fun y hy hs=>key y hs (h.b y hy hs),fun y hy l hl z hz hs=>key z hs (h.c y hy l hl z hz hs)⟩
def nX.more{l:List ByteArray}(h:nX lk l0 met (todo++[x]))(hx:lk x=some l):nX lk l0 (met++[x]) (todo++l):=by
 have hr:Reach lk l0 x:=h.t x Tc2 (by rw[hx];rfl);have key:∀y,y∈met\/y∈todo++[x]->y∈met++[x]\/y∈todo++l:=fun y q=>by
  rcases q with q|q
  ·exact .inl (ju _ q)
  rcases AS.1 q with q|q
  ·exact .inr (ju _ q)
  exact .inl (P9 _ q)
 refine⟨fun y hy=>?_,fun y hy hs=>?_,fun y hy hs=>key y (h.b y hy hs),fun y hy k hk z hz hs=>?_⟩
 ·rcases AS.1 hy with q|q
  ·exact h.m y q
  obtain rfl:=AM.1 q;exact hr
 ·rcases AS.1 hy with q|q
  ·exact h.t y (ju _ q) hs
  exact .step hr hx q hs
 rcases AS.1 hy with q|q
 ·exact key z (h.c y q k hk z hz hs)
 obtain rfl:=AM.1 q;rw[hx]at hk;injection hk with e;subst e;exact .inr (P9 _ hz)
def nK(names:List ByteArray)(U:Nat)(met todo:List ByteArray):Nat:=(names.filter fun n=>!bI met n).length*(U+1)+todo.length
def lw(names:List ByteArray)(U:Nat)(met todo:List ByteArray)(x:ByteArray):nK names U met todo<nK names U met (todo++[x]):=by
 unfold nK;rw[cD];simp
def kQ{p q:α->Bool}:∀ {l:List α} {x:α},(∀y,q y=true->p y=true)->x∈l->p x=true->q x=false->(l.filter q).length<(l.filter p).length
 |[],_,_,hx,_,_=>by cases hx
 |a :: l,x,Qa,hx,hp,hq=>by
  have hle:(l.filter q).length<=(l.filter p).length:=by
   have e:l.filter q=(l.filter p).filter q:=by
    rw[List.filter_filter];refine A0 fun y _=>?_;cases h:q y<;>simp[h,Qa y]
   rw[e];exact tk ..
  by_cases e:x=a
  ·subst e;simp only[List.filter_cons,hp,hq,ej,pj,fY,cS];omega
  have a5:x∈l:=(F1.1 hx).resolve_left e;have ih:=kQ Qa a5 hp hq;by_cases ha:q a=true
  ·simp only[List.filter_cons,ha,Qa a ha,ej,cS];omega
  simp only[List.filter_cons,ha,fY,pj];split
  ·rw[cS];omega
  omega
def Ap(names:List ByteArray)(U:Nat)(met todo l:List ByteArray)(x:ByteArray)(hx:x∈names)(hm:x ∉ met)(hl:l.length<=U):nK names U (met++[x]) (todo++l)<nK names U met (todo++[x]):=by
 unfold nK;have h:=kQ (p:=fun n=>!bI met n) (q:=fun n=>!bI (met++[x]) n) (l:=names) (x:=x) (fun y hy=>by rw[fU]at hy;cases h:bI met y<;>simp[h]at hy ⊢) hx (by rw[lX.2 hm];rfl) (by rw[fU];simp);generalize (names.filter fun n=>!bI met n).length=a at *;generalize (names.filter fun n=>!bI (met++[x]) n).length=b at *;have:(b+1)*(U+1)<=a*(U+1):=tA _ h;rw[Nat.succ_mul]at this;simp only[cD,A4];omega
def BG(names met:List ByteArray):Nat:=(names.filter fun n=>!bI met n).length
def Bn(names met:List ByteArray)(x:ByteArray)(hx:x∈names)(hm:x ∉ met):BG names (met++[x])<BG names met :=
 kQ (p:=fun n=>!bI met n) (q:=fun n=>!bI (met++[x]) n) (l:=names) (x:=x) (fun y hy=>by rw[fU]at hy;cases h:bI met y<;>simp[h]at hy ⊢) hx (by rw[lX.2 hm];rfl) (by rw[fU];simp)
def Ae(names met:List ByteArray):BG names met<=names.length:=tk ..
def oN(met:List ByteArray):Value->Option Value
 |.string s=>if bI met s=true then some (.bool true) else none
 |_=>none
def xk(met:List ByteArray)(s:ByteArray):(oN met (.string s)).getD (.bool false)=.bool (bI met s):=by
 show(if bI met s=true then some (FG true) else none).getD (.bool false)=_;cases h:bI met s<;>simp
def uH(met:List ByteArray)(x:ByteArray)(key:Value):oN (met++[x]) key=upd (oN met) (.string x) (.bool true) key:=by
 by_cases h:key=.string x
 ·subst h;rw[upd_same];simp[oN,fU]
 rw[bP h];unfold oN;split
 ·rename_i s;have:¬x=s:=fun e=>h TdF;rw[fU];simp[this]
 rfl
def gD{α:Type}(nm:α->ByteArray)(p:ByteArray->Bool)(l:List α):List ByteArray:=l.foldl (fun a5 x=>if(p (nm x)&&!bI a5 (nm x))=true then a5++[nm x] else a5) []
def rJ(nm:α->ByteArray)(p:ByteArray->Bool){l:List α}{k:Nat}{x:α}(h:l[k]?=some x):gD nm p (l.take (k+1))=if(p (nm x)&&!bI (gD nm p (l.take k)) (nm x))=true then gD nm p (l.take k)++[nm x] else gD nm p (l.take k):=by
 rw[take_snoc' l k x h];unfold gD;rw[List.foldl_append];rfl
def lq(nm:α->ByteArray)(p:ByteArray->Bool)(l:List α):(gD nm p l).length<=l.length:=by
 have:∀(l:List α) (o:List ByteArray),(l.foldl (fun a5 x=>if(p (nm x)&&!bI a5 (nm x))=true then a5++[nm x] else a5) o).length<=o.length+l.length:=by
  intro l;induction l with
  |nil=>intro o;simp
  |cons x l ih =>
   intro o;rw[cF,cS];refine cA (ih _) ?_;split
   ·rw[cD,A4];omega
   omega
 simpa[gD]using this l []
open Classical in
noncomputable def Fj(F9:List ay)(nm x:ByteArray):Bool:=decide (x=nm\/Reach (dU F9) ((dU F9 nm).getD []) x)
noncomputable def mR(F9:List ay)(nm:ByteArray):List ByteArray:=gD ay.name (Fj F9 nm) F9
def onS(d:ByteArray)(s:aB):Bool:=s.Ga.any fun a=>decide (a.on=d)&&!a.vol
def XZ(F9:List ay)(d x:ByteArray):Bool:=((aM F9 x).getD eY).Gf.any (onS d)
noncomputable def sP(g:af)(nm:ByteArray):List ByteArray:=gD az.name (fun d=>(mR g.F9 nm).any (XZ g.F9 d)) g.Gb
end Go.Proofs.YtaagglbgohjldaaGreatDoor
namespace Go.Proofs.YtaagglbgohjldaaGreatDoor
open Go.Proofs.Tryz
open Go.RowKit Go.Maps Go.Shelf
def XY(a b:ByteArray):Bool:=Op.bytesLess a.toList b.toList
def kV(l:List ByteArray)(i:Nat):Bool:=mr (l.getD i ⟨#[]⟩)&&(decide (i=0)||XY (l.getD (i-1) ⟨#[]⟩) (l.getD i ⟨#[]⟩))
def eP(l:List ByteArray):Int:=if 8<l.length then 4 else if(FF l.length).all (kV l) then 0 else 2
def TI(l:List ByteArray):Prop:=l.length<=1000000/\∀s∈l,s.size<=9223372036854775807
structure UT(g:af):Prop where
 name:g.name.size<=9223372036854775807
 tags:TI g.tags
 dl:g.Gb.length<=1000000
 vl:g.F9.length<=1000000
 hl:g.history.length<=1000000
 disk:∀d∈g.Gb,d.name.size<=9223372036854775807/\TI d.tags
 vol:∀v∈g.F9,v.name.size<=9223372036854775807/\TI v.tags
 hist:∀h∈g.history,h.1.size<=9223372036854775807
def lL(h:ByteArray × Int × Int):Bool:=jo h.1&&decide (0<=h.2.2/\h.2.2<=1048575)
def lm(g:af):Prop:=0<=g.seq/\g.seq<=1048575/\1<=g.Gd/\g.Gd<=1024/\0<=g.next/\g.next<=1073741824
instance (g:af):Decidable (lm g):=by unfold lm;infer_instance
def iR(g:af):Prop:=g.Gb.length<=8/\g.F9.length<=32/\g.history.length<=32
instance (g:af):Decidable (iR g):=by unfold iR;infer_instance
def qX(g:af):Int :=
 if jo g.name=false then 10 else if ¬lm g then 1 else if ¬iR g then 4 else if eP g.tags≠0 then eP g.tags else if g.history.all lL then 0 else 2
def dZ(g:af):ByteArray × Int:=(⟨#[]⟩,qX g)
def ck.take{α:Type}{V:jx α}{sz:Nat}{ok:Nat->Prop}{w:World}{p:Option Addr}{cap:Nat}{l:List α}(h:ck V sz ok w [.slice p l.length cap] l)(k:Nat)(hk:k<=l.length):ck V sz ok w [.slice p k cap] (l.take k):=by
 obtain⟨p',c',e,h1,h2,h3⟩:=h;injection e with e;injection e with e1 _ e3;subst e1;subst e3;have hl:(l.take k).length=k:=by simp;omega
 refine⟨p,cap,by rw[hl],Tc1,h2,fun h0=>?_⟩;obtain⟨b,off,hp,hb,ho,hc⟩:=h3 Tc1;exact⟨b,off,hp,hb,ho,fun i x hx=>hc i x (by
  rw[xF]at hx;split at hx
  ·exact hx
  cases hx)⟩
def dG(d x:az):Bool:=x.name.toList==d.name.toList||x.id==d.id
def Teq{p:Prop}(h:p:=by rw[HM.o];rfl):p:=h
def vR{ok:Nat->Prop}(x d:az)(u:List Value)(Bd:Nat)(w:World)(hu:aO ok w u x)(h0:w.cell? Bd=some (.string d.name))(h1:w.cell? (Tac Bd 1)=some (.int .u64 d.id))(hb:Bd<w.1.size) :
  Calls prog 139 #[.agg u.toArray,.pointer (some Bd)] w fun e w'=>e=.returned (.bool (dG d x))/\Below w.1.size w w':=by
 obtain⟨tv,rfl,ew⟩:=hu;obtain⟨tp,tc,rfl,_,_⟩:=ew.cap;clear ew;have hA:=ae w (.cells (Tai x tp tc) 51);have HA:=aa hA;have HM:Hid (dG d x=_):=aa (dG.eq_1 d x);have d0:=(hA.cell (p:=Bd) hb).trans h0;have d1:=(hA.cell (p:=⟨Bd,1,none⟩) hb).trans h1;clear hA h0 h1;cases hn:x.name.toList==d.name.toList with
 |true =>
  rw[hn]at HM;go_enter func139,ntmps139;go_wp2;go_ret;exact⟨ah Teq,HA.o⟩
 |false =>
  rw[hn]at HM;go_enter func139,ntmps139;go_wp2;go_ret;exact⟨ah Teq,HA.o⟩
def Tb7{p:Prop}(h:p:=by
 ·obtain rfl:k=l.length:=by omega
  rw[cI]at cE;go_wp2;go_ret;exact⟨⟨-1,rfl,by rw[cE.o];rfl⟩,hB⟩):p:=h
def Tex{p:Prop}(h:p:=by rw[take_snoc' l k x hx,rj,cE.o];simp):p:=h
def sF{ok:Nat->Prop}(l:List az)(d:az)(p:Option Addr)(cap Bd:Nat)(w:World)(hr:ck aO 7 ok w [.slice p l.length cap] l)(hl:l.length<=1000000)(h0:w.cell? Bd=some (.string d.name))(h1:w.cell? (Tac Bd 1)=some (.int .u64 d.id))(hb:Bd<w.1.size) :
  Calls prog 175 #[.slice p l.length cap,.func (.func 139) #[] #[Bd]] w
   fun e w'=>(∃r:Int,e=.returned (.int .i64 r)/\decide (0<=r)=l.any (dG d))/\Below w.1.size w w':=by
 obtain⟨p',c',e,a7,zc⟩:=hr.cap;injection e with e1 _ e3;subst e1;subst e3;replace hr:=aa hr;replace h0:=aa h0;replace h1:=aa h1;go_enter func175,ntmps175;go_wp2
 go_loopw[8,5] (fun i _ wr=>∃k:Nat,k<=l.length/\i=.int .i64 k/\Below w.1.size w wr/\(l.take k).any (dG d)=false) (fun i _ _=>l.length-(intOf i).toNat)
 exact⟨0,cg _,rfl,bj _ _,rfl⟩;obtain⟨k,hk,rfl,hB,hall⟩:=hrel;have cE:=aa hall;clear hall;by_cases hlt:k<l.length
 ·obtain⟨x,hx⟩:=aj l k hlt;obtain⟨b,off,us,hbo,gR,cX,ez,eE,ON⟩:=hr.o.elem hx;subst hbo;have HV:=aa eE;obtain⟨tv,rfl,ew⟩:=eE;obtain⟨tp,tc,rfl,_,_⟩:=ew.cap;clear ew;have cT:wr.1[b]?=w.1[b]?:=hB.block b cX;obtain⟨q0,q1,q2,q3,q4,q5,q6⟩:=OD cT ON;have a5:Hid ((l.take (k+1)).any (dG d)=dG d x):=aa Tex;have AE:Hid (dG d x=true->l.any (dG d)=true):=aa fun h=>Ft.2 ⟨x,ct hx,h⟩;clear ON ez cT hx cE;have mA:=hB.size
  go_wp2_with fail;refine(vR (ok:=ok) x d _ Bd wr (aO.moves.mv (Mv.of hB) HV.o) ((hB.cell hb).trans h0.o) ((hB.cell hb).trans h1.o) Tc1).mono ?_;rintro e w3 ⟨rfl,hb3⟩;have cJ:=aa (hB.trans (hb3.mono hB.size));clear hb3 q0;cases hs:dG d x with
  |true =>
   have E3:=aa (AE.o hs);clear hs;go_wp2;go_ret;exact⟨⟨k,rfl,by rw[E3.o];simp⟩,cJ.o⟩
  |false =>
   have E3:=aa (a5.o.trans hs);clear hs;go_wp2;go_roundw;exact⟨k+1,Tc1,Tc5,cJ.o,E3.o⟩;simp[intOf];omega
 exact Tb7
def TcV{p:Prop}(h:p:=by
 have HR:=aa hr2;clear hr2;have HB:=aa hb2;clear hb2;go_wp2;go_ret;exact⟨ah HR.o,HB.o⟩):p:=h
def TbT{p:Prop}(h:p:=by
 rintro e w2 ⟨⟨r,rfl,hr2⟩,hb2⟩;exact TcV):p:=h
def sN{ok:Nat->Prop}(l:List az)(d:az)(p:Option Addr)(cap Bd:Nat)(w:World)(hr:ck aO 7 ok w [.slice p l.length cap] l)(hl:l.length<=1000000)(h0:w.cell? Bd=some (.string d.name))(h1:w.cell? (Tac Bd 1)=some (.int .u64 d.id))(hb:Bd<w.1.size) :
  Calls prog 138 #[.slice p l.length cap,.func (.func 139) #[] #[Bd]] w
   fun e w'=>e=.returned (.bool (l.any (dG d)))/\Below w.1.size w w':=by
 go_enter func138,ntmps138
 go_wp2_with fail;refine(sF (ok:=ok) l d p cap Bd w hr hl h0 h1 hb).mono ?_;exact TbT
def fC(d x:ay):Bool:=x.name.toList==d.name.toList||x.id==d.id
def wh{ok:Nat->Prop}(x d:ay)(u:List Value)(Bd:Nat)(w:World)(hu:aN ok w u x)(h0:w.cell? Bd=some (.string d.name))(h1:w.cell? (Tac Bd 1)=some (.int .u64 d.id))(hb:Bd<w.1.size) :
  Calls prog 141 #[.agg u.toArray,.pointer (some Bd)] w fun e w'=>e=.returned (.bool (fC d x))/\Below w.1.size w w':=by
 obtain⟨tv,sv,rfl,ew,fL⟩:=hu;obtain⟨tp,tc,rfl,_,_⟩:=ew.cap;obtain⟨sp,sc,rfl,_,_⟩:=fL.cap;clear ew fL;have hA:=ae w (.cells (Tah x tp tc sp sc) 68);have HA:=aa hA;have HM:Hid (fC d x=_):=aa (fC.eq_1 d x);have d0:=(hA.cell (p:=Bd) hb).trans h0;have d1:=(hA.cell (p:=⟨Bd,1,none⟩) hb).trans h1;clear hA h0 h1;cases hn:x.name.toList==d.name.toList with
 |true =>
  rw[hn]at HM;go_enter func141,ntmps141;go_wp2;go_ret;exact⟨ah Teq,HA.o⟩
 |false =>
  rw[hn]at HM;go_enter func141,ntmps141;go_wp2;go_ret;exact⟨ah Teq,HA.o⟩
def uK{ok:Nat->Prop}(l:List ay)(d:ay)(p:Option Addr)(cap Bd:Nat)(w:World)(hr:ck aN 6 ok w [.slice p l.length cap] l)(hl:l.length<=1000000)(h0:w.cell? Bd=some (.string d.name))(h1:w.cell? (Tac Bd 1)=some (.int .u64 d.id))(hb:Bd<w.1.size) :
  Calls prog 176 #[.slice p l.length cap,.func (.func 141) #[] #[Bd]] w
   fun e w'=>(∃r:Int,e=.returned (.int .i64 r)/\decide (0<=r)=l.any (fC d))/\Below w.1.size w w':=by
 obtain⟨p',c',e,a7,zc⟩:=hr.cap;injection e with e1 _ e3;subst e1;subst e3;replace hr:=aa hr;replace h0:=aa h0;replace h1:=aa h1;go_enter func176,ntmps176;go_wp2
 go_loopw[8,5] (fun i _ wr=>∃k:Nat,k<=l.length/\i=.int .i64 k/\Below w.1.size w wr/\(l.take k).any (fC d)=false) (fun i _ _=>l.length-(intOf i).toNat)
 exact⟨0,cg _,rfl,bj _ _,rfl⟩;obtain⟨k,hk,rfl,hB,hall⟩:=hrel;have cE:=aa hall;clear hall;by_cases hlt:k<l.length
 ·obtain⟨x,hx⟩:=aj l k hlt;obtain⟨b,off,us,hbo,gR,cX,ez,eE,ON⟩:=hr.o.elem hx;subst hbo;have HV:=aa eE;obtain⟨tv,sv,rfl,ew,fL⟩:=eE;obtain⟨tp,tc,rfl,_,_⟩:=ew.cap;obtain⟨sp,sc,rfl,_,_⟩:=fL.cap;clear ew fL;have cT:wr.1[b]?=w.1[b]?:=hB.block b cX;obtain⟨q0,q1,q2,q3,q4,q5⟩:=sw6 cT ON;have a5:Hid ((l.take (k+1)).any (fC d)=fC d x):=aa Tex;have AE:Hid (fC d x=true->l.any (fC d)=true):=aa fun h=>Ft.2 ⟨x,ct hx,h⟩;clear ON ez cT hx cE;have mA:=hB.size
  go_wp2_with fail;refine(wh (ok:=ok) x d _ Bd wr (aN.moves.mv (Mv.of hB) HV.o) ((hB.cell hb).trans h0.o) ((hB.cell hb).trans h1.o) Tc1).mono ?_;rintro e w3 ⟨rfl,hb3⟩;have cJ:=aa (hB.trans (hb3.mono hB.size));clear hb3 q0;cases hs:fC d x with
  |true =>
   have E3:=aa (AE.o hs);clear hs;go_wp2;go_ret;exact⟨⟨k,rfl,by rw[E3.o];simp⟩,cJ.o⟩
  |false =>
   have E3:=aa (a5.o.trans hs);clear hs;go_wp2;go_roundw;exact⟨k+1,Tc1,Tc5,cJ.o,E3.o⟩;simp[intOf];omega
 exact Tb7
def vH{ok:Nat->Prop}(l:List ay)(d:ay)(p:Option Addr)(cap Bd:Nat)(w:World)(hr:ck aN 6 ok w [.slice p l.length cap] l)(hl:l.length<=1000000)(h0:w.cell? Bd=some (.string d.name))(h1:w.cell? (Tac Bd 1)=some (.int .u64 d.id))(hb:Bd<w.1.size) :
  Calls prog 140 #[.slice p l.length cap,.func (.func 141) #[] #[Bd]] w
   fun e w'=>e=.returned (.bool (l.any (fC d)))/\Below w.1.size w w':=by
 go_enter func140,ntmps140
 go_wp2_with fail;refine(uK (ok:=ok) l d p cap Bd w hr hl h0 h1 hb).mono ?_;exact TbT
def gZ{α:Type}(nm:α->ByteArray)(f:Nat->α->Int):Nat->List α->ByteArray × Int
 |_,[]=>(⟨#[]⟩,0)
 |i,x :: r=>if f i x=0 then gZ nm f (i+1) r else(nm x,f i x)
def jQ(g:af)(d:az):Prop:=0<=d.first/\d.first<=65536/\0<=d.Gc/\d.Gc<=4096/\d.first+d.Gc*g.Gd<=65536
instance (g:af) (d:az):Decidable (jQ g d):=by unfold jQ;infer_instance
def pg(g:af)(i:Nat)(d:az):Int:=if jo d.name=false then 10 else if(g.Gb.take i).any (dG d)=true then 9 else if ¬jQ g d then 1 else eP d.tags
def dw(g:af):ByteArray × Int:=gZ az.name (pg g) 0 g.Gb
def nE(v:ay):Bool:=if v.hidden then zH v.name else jo v.name
def yH(g:af)(i:Nat)(v:ay):Int:=if nE v=false then 10 else if(g.F9.take i).any (fC v)=true then 9 else if ¬(1<=v.Gf.length/\v.Gf.length<=64) then 4 else eP v.tags
def dJ(g:af):ByteArray × Int:=gZ ay.name (yH g) 0 g.F9
def dO(g:af)(nm:ByteArray):Int:=C8 ((aM g.F9 nm).getD eY)
def Eh:qD eY:=⟨by simp[eY],by simp[eY],by simp[eY]⟩
def Dt{g:af}(hz:JT g)(nm:ByteArray):qD ((aM g.F9 nm).getD eY):=by
 cases h:aM g.F9 nm with
 |none=>exact Eh
 |some v=>exact hz.vz v (eV h)
def yC{ok:Nat->Prop}(g:af)(a:bN)(bc Bc:Nat)(nm:ByteArray)(w:World)(kB:gY w bc g a)(a7:w.cell? Bc=some (.pointer (some bc)))(hg:dN ok w g a)(hz:JT g) :
  Calls prog 150 #[.string nm,.pointer (some Bc)] w fun e w'=>e=.returned (.int .i64 (dO g nm))/\Below w.1.size w w':=by
 have jt:=kB.lt;obtain⟨sm,da,_⟩:=kB;have nw:Hid (bX w bc sm g a):=aa da;clear da;obtain⟨g0,g1,g2,g3,g4,g5,g6,g7,g8⟩:=bX.cells nw.o;replace hg:=aa hg;replace hz:=aa hz;have a8:=Dt hz.o nm;have GF:=a8.Gf;have HL:Hid (dO g nm=_):=aa (dO.eq_1 g nm);go_enter func150,ntmps150
 go_wp2_with fail;refine(fA (ok:=ok) g a nm w hg.o.F9 hz.o.vl hz.o.vz).mono ?_;rintro e w2 ⟨u,rfl,sA,hb2⟩;generalize (aM g.F9 nm).isSome=is at *;generalize (aM g.F9 nm).getD eY=x at *;have HV:=aa sA;have cm:=aa hb2;obtain⟨tv,sv,rfl,ew,fL⟩:=sA;obtain⟨tp,tc,rfl,_,_⟩:=ew.cap;obtain⟨sp,sc,rfl,_,_⟩:=fL.cap;clear ew fL hb2 g0 g1 g2 g3 g4 g5 g6 g7 g8 a7;have hA:=ae w2 (.cells (Tah x tp tc sp sc) 68);have cJ:=Zbl cm hA;have Ya:=aa (aN.moves.mv (Mv.of hA) HV.o);have hBx:=b9 w2 (.cells (Tah x tp tc sp sc) 68);have xL:=cr hBx;obtain⟨x0,x1,x2,x3,x4,x5⟩:=sv6 xL;clear hA hBx xL;go_wp2_with fail;refine(yz (ok:=fun b=>ok b\/w.1.size<=b) x _ _ Ya.o Tc1).mono ?_;rintro e w4 ⟨rfl,a5⟩;have eI:=Zbl cJ a5;clear a5 x0 x1 x2 x3 x4 x5;go_wp2;go_ret;exact⟨cz HL.o.symm,eI.o⟩
def aOn(s:aB)(i:Nat):ByteArray:=((s.Ga[i]?).getD ⟨false,⟨#[]⟩,0⟩).on
def BZ(g:af)(s:aB):Int:=(s.length*g.Gd+s.chunk-1)/s.chunk
def Fe(g:af)(s:aB):Bool:=s.log.toList.isEmpty||decide (1+(BZ g s+64-1)/64<=dO g s.log*g.Gd)
def ER(g:af)(s:aB):Bool:=decide (s.length/((s.Ga.length:Int)-1)*g.Gd+16<=dO g (aOn s 0)*g.Gd)
def CX(g:af)(s:aB):Bool :=
 if s.kind=3 then s.Ga.all (fun a=>dO g a.on==s.length)&&Fe g s
 else if s.kind=4 then s.Ga.all (fun a=>dO g a.on==dO g (aOn s 0))&&ER g s
 else if s.kind=5 then dO g (aOn s 1)==s.length
 else if s.kind=7 then dO g (aOn s 0)==s.length else true
def xh(g:af)(s:aB):Int:=if CX g s then 0 else 3
structure Ah(s:aB):Prop where
 fm:wM s
 c3:s.kind=3->1<=s.chunk/\s.chunk<=1024
 a4:s.kind=4->3<=s.Ga.length
def Cu(g:af):Prop:=∀nm,0<=dO g nm/\dO g nm<=10000000
def tN(n d:Int)(w:World)(h0:0<=n)(h1:n<=1000000000000)(h2:1<=d)(h3:d<=1000000) :
  Calls prog 153 #[.int .i64 n,.int .i64 d] w fun e w'=>e=.returned (.int .i64 ((n+d-1)/d))/\Below w.1.size w w' :=
 (CV n d w h0 h1 h2 h3).mono fun _ _ ⟨h,e⟩=>⟨h,e ▸ bj _ _⟩
def qG(g:af):ByteArray × Int:=bD (fun _ _ s=>xh g s) [] (aA g.F9)
def Jd(w:World)(b off:Nat)(l:List Bool):Prop:=∀(i:Nat) (x:Bool),l[i]?=some x->w.cell? (b,off+i)=some (.bool x)
def sJ(l:List Bool)(b off cap:Nat)(w:World)(h:Jd w b off l)(hb:b<w.1.size)(hl:l.length<=1000000) :
  Calls prog 185 #[.slice (some (b,off)) l.length cap,.bool true] w fun e w'=>(∃r:Int,e=.returned (.int .i64 r)/\decide (0<=r)=l.any id)/\Below w.1.size w w':=by
 have HH:=aa h;clear h;go_enter func185,ntmps185;go_wp2
 go_loopw[8,5] (fun i _ wr=>∃k:Nat,k<=l.length/\i=.int .i64 k/\Below w.1.size w wr/\(l.take k).any id=false) (fun i _ _=>l.length-(intOf i).toNat)
 exact⟨0,cg _,rfl,bj _ _,rfl⟩;obtain⟨k,hk,rfl,hB,hall⟩:=hrel;have cE:=aa hall;clear hall;by_cases hlt:k<l.length
 ·obtain⟨x,hx⟩:=aj l k hlt;have q0:=(hB.cell (p:=⟨b,off+k,none⟩) hb).trans (HH.o k x hx);have a5:Hid ((l.take (k+1)).any id=x):=aa Tex;have AE:Hid (x=true->l.any id=true):=aa fun h=>Ft.2 ⟨x,ct hx,h⟩;clear hx cE;cases x with
  |true =>
   have E3:=aa (AE.o rfl);go_wp2;go_ret;exact⟨⟨k,rfl,by rw[E3.o];simp⟩,hB⟩
  |false =>
   have E3:=aa a5.o;go_wp2;go_roundw;exact⟨k+1,Tc1,Tc5,hB,E3.o⟩;simp[intOf];omega
 exact Tb7
def oC(l:List Bool)(b off cap:Nat)(w:World)(h:Jd w b off l)(hb:b<w.1.size)(hl:l.length<=1000000) :
  Calls prog 155 #[.slice (some (b,off)) l.length cap,.bool true] w fun e w'=>e=.returned (.bool (l.any id))/\Below w.1.size w w':=by
 go_enter func155,ntmps155
 go_wp2_with fail;refine(sJ l b off cap w h hb hl).mono ?_;exact TbT
section
open Go Go.Maps Go.MapKept Go.ChangeMaps
variable {P:Program}{k:TypeId}{w w':World}{b n:Nat}{f:Value->Option Value}
end
attribute [local go_sem] run_makeMap_plain
def Tdp{p:Prop}(h:p:=by rw[h]):p:=h
def zq(w:World) :
  Calls prog 100 #[] w fun e w'=>∃b,e=.returned (.map (some b))/\bi prog 3 w' b 10 eH/\Below w.1.size w w':=by
 go_enter func100,ntmps100;have h0:=bi.made prog 3 w;obtain⟨w1,r1,h1,g1,z1⟩:=h0.store pF underlying153 Tc4 (lA (a:=1) underlying3 Tc4) (.agg #[.int .i64 1,.int .i64 1,false,true,.int .i64 0,false,false,false,false,false]);obtain⟨w2,r2,h2,g2,z2⟩:=h1.store pF underlying153 Tc4 (lA (a:=2) underlying3 Tc4) (.agg #[.int .i64 2,.int .i64 6,false,true,.int .i64 1,false,false,false,false,false]);obtain⟨w3,r3,h3,g3,z3⟩:=h2.store pF underlying153 Tc4 (lA (a:=3) underlying3 Tc4) (.agg #[.int .i64 2,.int .i64 6,true,false,.int .i64 1024,true,false,true,false,false]);obtain⟨w4,r4,h4,g4,z4⟩:=h3.store pF underlying153 Tc4 (lA (a:=4) underlying3 Tc4) (.agg #[.int .i64 3,.int .i64 6,true,false,.int .i64 1,true,false,false,false,false]);obtain⟨w5,r5,h5,g5,z5⟩:=h4.store pF underlying153 Tc4 (lA (a:=5) underlying3 Tc4) (.agg #[.int .i64 2,.int .i64 2,true,false,.int .i64 64,false,false,false,false,false]);obtain⟨w6,r6,h6,g6,z6⟩:=h5.store pF underlying153 Tc4 (lA (a:=6) underlying3 Tc4) (.agg #[.int .i64 0,.int .i64 0,false,false,.int .i64 0,false,true,false,false,false]);obtain⟨w7,r7,h7,g7,z7⟩:=h6.store pF underlying153 Tc4 (lA (a:=7) underlying3 Tc4) (.agg #[.int .i64 3,.int .i64 3,true,false,.int .i64 64,false,false,false,true,false]);obtain⟨w8,r8,h8,g8,z8⟩:=h7.store pF underlying153 Tc4 (lA (a:=8) underlying3 Tc4) (.agg #[.int .i64 2,.int .i64 2,false,true,.int .i64 0,false,false,false,false,true]);obtain⟨w9,r9,h9,g9,z9⟩:=h8.store pF underlying153 Tc4 (lA (a:=9) underlying3 Tc4) (.agg #[.int .i64 0,.int .i64 0,false,true,.int .i64 0,false,false,false,false,false]);obtain⟨aa,ab,a5,a7,ad⟩:=h9.store pF underlying153 Tc4 (lA (a:=10) underlying3 Tc4) (.agg #[.int .i64 0,.int .i64 0,false,true,.int .i64 0,false,false,false,false,false]);have a8:Below w.1.size w (w.alloc (.map #[] 0)):=ae w _;go_wp2;go_ret;refine⟨w.1.size,rfl,a5.congr ?_,?_⟩
 ·intro key kl hk;clear hk;by_cases e10:key=.int .i64 10
  ·subst e10;rw[upd_same];rfl
  rw[bP e10];by_cases e9:key=.int .i64 9
  ·subst e9;rw[upd_same];rfl
  rw[bP e9];by_cases e8:key=.int .i64 8
  ·subst e8;rw[upd_same];rfl
  rw[bP e8];by_cases e7:key=.int .i64 7
  ·subst e7;rw[upd_same];rfl
  rw[bP e7];by_cases e6:key=.int .i64 6
  ·subst e6;rw[upd_same];rfl
  rw[bP e6];by_cases e5:key=.int .i64 5
  ·subst e5;rw[upd_same];rfl
  rw[bP e5];by_cases e4:key=.int .i64 4
  ·subst e4;rw[upd_same];rfl
  rw[bP e4];by_cases e3:key=.int .i64 3
  ·subst e3;rw[upd_same];rfl
  rw[bP e3];by_cases e2:key=.int .i64 2
  ·subst e2;rw[upd_same];rfl
  rw[bP e2];by_cases e1:key=.int .i64 1
  ·subst e1;rw[upd_same];rfl
  rw[bP e1];unfold eH;split
  ·rename_i q;have f1:¬q=1:=fun h=>e1 Tdp;have f2:¬q=2:=fun h=>e2 Tdp;have f3:¬q=3:=fun h=>e3 Tdp;have f4:¬q=4:=fun h=>e4 Tdp;have f5:¬q=5:=fun h=>e5 Tdp;have f6:¬q=6:=fun h=>e6 Tdp;have f7:¬q=7:=fun h=>e7 Tdp;have f8:¬q=8:=fun h=>e8 Tdp;have f9:¬q=9:=fun h=>e9 Tdp;have a9:¬q=10:=fun h=>e10 Tdp;rw[shapeOf,bh f1,bh f2,bh f3,bh f4,bh f5,bh f6,bh f7,bh f8,bh f9,bh a9];rfl
  rfl
 have st:∀W W':World,Below w.1.size w W->W.grownBy W' (some w.1.size)->Below w.1.size w W':=fun W W' hb hg =>
  ⟨hg.os.trans hb.os,hg.tape.trans hb.tape,hg.output.trans hb.output,cA hb.size hg.size,fun k hk=>(hg.block k (cC hk hb.size) (by intro h;injection h with h;omega)).trans (hb.block k hk)⟩
 exact(st _ _ (st _ _ (st _ _ (st _ _ (st _ _ (st _ _ (st _ _ (st _ _ (st _ _ (st _ _ a8 g1) g2) g3) g4) g5) g6) g7) g8) g9) a7)
end Go.Proofs.YtaagglbgohjldaaGreatDoor
namespace Go.Proofs.YtaagglbgohjldaaGreatDoor
open Go.Proofs.Tryz
open Go.RowKit Go.Maps Go.Shelf
variable {w:World}{b:Nat}{l:List ByteArray}{L:List (az × Nat)}{M:List (ByteArray × Int × Int)}{d:az}
def iJ(l:List ByteArray)(nm:ByteArray):Nat:=l.countP fun x=>decide (x=nm)
def cntF(l:List ByteArray):Value->Option Value
 |.string s=>if iJ l s=0 then none else some (.int .i64 (iJ l s))
 |_=>none
def Dy(l:List ByteArray)(s:ByteArray):(cntF l (.string s)).getD (.int .i64 0)=.int .i64 (iJ l s):=by
 show(if iJ l s=0 then none else some (Bm .i64 (iJ l s))).getD (.int .i64 0)=_;by_cases h:iJ l s=0
 ·rw[aw h,h];rfl
 rw[bh h];rfl
def sV(l:List ByteArray)(x nm:ByteArray):iJ (l++[x]) nm=iJ l nm+if x=nm then 1 else 0:=by
 unfold iJ;rw[List.countP_append];by_cases h:x=nm<;>simp[h]
def Bw(l:List ByteArray)(x:ByteArray)(key:Value):cntF (l++[x]) key=upd (cntF l) (.string x) (.int .i64 ((iJ l x:Int)+1)) key:=by
 by_cases h:key=.string x
 ·subst h;rw[upd_same];simp[cntF,sV]
 rw[bP h];unfold cntF;split
 ·rename_i s;have:¬x=s:=fun e=>h TdF;rw[sV,bh this];rfl
 rfl
def EJ(g:af)(pool:Bool):List ByteArray:=(aA g.F9).flatMap fun p=>dD p.2 pool
def yt(g:af)(v:ay):Int:=if v.hidden then(if iJ (EJ g true) v.name=1 then 0 else 16) else(if iJ (EJ g false) v.name=0 then 0 else 16)
def rY(g:af):ByteArray × Int:=iM (yt g) g.F9
def oM:Keyed prog 9:=string_keyed underlying9
def gG(s:ByteArray)(h:s.size<=maxLen):keyOf prog 9 (.string s)=some (.string s.data.toList):=by
 simp[keyOf,underlying9,mapKey,h]
def Fx(w:World):(zeroValue 3).run prog w=.ok (.int .i64 0) w:=by kernel_rfl
def dA(l:List (ay × aB))(pool:Bool):List ByteArray:=l.flatMap fun p=>dD p.2 pool
def qW(l:List (ay × aB))(v:ay)(s:aB)(pool:Bool):dA (l++[(v,s)]) pool=dA l pool++dD s pool:=by simp[dA]
def gm(w:World)(b:Nat)(l:List ByteArray):Prop:=bi prog 9 w b l.length (cntF l)
def gm.look(h:gm w b l)(s:ByteArray)(hs:s.size<=maxLen):(Instr.lookup 207 (.map (some b)) (.string s) false).run prog w=.ok (.int .i64 (iJ l s)) w:=by
 have:=(bi.look h oM underlying207 (Fx w) (key:=.string s) (gG s hs)).1;rwa[Dy]at this
def gm.store(h:gm w b l)(hl:l.length<=1000000)(s:ByteArray)(hs:s.size<=maxLen) :
  ∃w',(Instr.mapUpdate 207 (.map (some b)) (.string s) (.int .i64 ((iJ l s:Int)+1))).run prog w=.ok () w'/\gm w' b (l++[s])/\w.grownBy w' (some b)/\w'.1.size=w.1.size:=by
 obtain⟨w',r,m,g,z⟩:=bi.store h oM underlying207 (rr hl Tc4) (key:=.string s) (gG s hs) (.int .i64 ((iJ l s:Int)+1));refine⟨w',r,?_,g,z⟩;unfold gm;rw[cD];exact m.congr fun key kl _=>Bw l s key
def kK(W:World)(L:List (az × Nat))(M:List (ByteArray × Int × Int)):Prop:=∀p∈L,W.1[p.2]?=some (.cells ((bz M p.1).map FG).toArray 4 (0,0))
structure uF(ok:Nat->Prop)(W:World)(L:List (az × Nat))(bm:Nat):Prop where
 map:bi prog 9 W bm L.length (vG L)
 nb:(L.map (·.2)).Nodup
 nn:(L.map (·.1.name)).Nodup
 lt:∀p∈L,p.2<W.heap.size/\¬ok p.2/\p.2≠bm
 de:∀p∈L,0<=p.1.Gc/\p.1.Gc<=1000000
def Gm(L:List (az × Nat)):Nat->Prop:=fun b=>∃p∈L,p.2=b
def ut{α β:Type}{f:α->β}{l:List α}(h:(l.map f).Nodup){x y:α}(hx:x∈l)(hy:y∈l)(e:f x=f y):x=y:=by
 induction l with
 |nil=>cases hx
 |cons a l ih =>
  rw[iu,List.nodup_cons]at h;rcases F1.1 hx with hx2|hx2<;>rcases F1.1 hy with hy2|hy2
  ·rw[hx2,hy2]
  ·exact absurd (by rw[<- hx2,e];exact List.mem_map_of_mem hy2) h.1
  ·exact absurd (by rw[<- hy2,<- e];exact List.mem_map_of_mem hx2) h.1
  exact ih h.2 hx2 hy2
def kK.below{w':World}(h:kK w L M)(hb:Below w.1.size w w'):kK w' L M:=fun p hp=>(hb.block p.2 (aq (h p hp))).trans (h p hp)
def kK.bools(h:kK w L M)(hp:(d,b)∈L)(st n:Nat):Jd w b st (((bz M d).drop st).take n):=fun i x hx=>by
 have hb:=h _ hp;dsimp only at hb;rw[xF]at hx;split at hx
 ·rw[pk]at hx;simp only[AN,hb];simpa using hx
 cases hx
def kK.zero(h:kK w L M)(nm:ByteArray)(st:Int):kK w L (M++[(nm,st,0)]):=fun p hp=>by
 rw[vQ];exact h p hp
def kK.set{st:Int}{j:Nat}(h:kK w L (M++[(d.name,st,(j:Int))]))(hb:(L.map (·.2)).Nodup)(hn:(L.map (·.1.name)).Nodup)(hp:(d,b)∈L)(h0:0<=st) :
  kK (w.setCell (b,st.toNat+j) (.bool true)) L (M++[(d.name,st,((j+1:Nat):Int))]):=fun p VM=>by
 by_cases e:p.2=b
 ·obtain rfl:p=(d,b):=ut hb VM hp e;have:=block_setCell (i:=st.toNat+j) (.bool true) (h _ hp);rw[this,xT,<- List.map_set,xH M d st j h0]
 rw[bw _ _ _ _ e,h p VM];have hne:¬d.name=p.1.name:=fun q=>e (by rw[ut hn VM hp q.symm]);rw[lQ M p.1 _ hne,lQ M p.1 _ hne]
def E8(w:World):(zeroValue 202).run prog w=.ok (.slice none 0 0) w:=by kernel_rfl
def laidB:laidOutB prog=true:=by kernel_rfl
def DY:(206:TypeId)<prog.types.size:=of_decide_eq_true Tc3
def EW:prog.keyTypeAt 2 206=true:=by kernel_rfl
def Em:WideMaps.KeyLaw prog 206:=deep_law_laid laidB (m:=2) Tc1 DY EW (by rw[underlying206])
def EI:Keyed prog 206:=Keyed.of_law Em
def TeT{p:Prop}(h:p:=by have:0<prog.types.size:=of_decide_eq_true (by kernel_rfl);omega):p:=h
def EZ:prog.keyType 206=true:=by
 obtain⟨n,hn⟩:∃n,prog.types.size=n+1:=⟨prog.types.size-1,TeT⟩;have hc:prog.cutTypes.any (·.2==206)=false:=by kernel_rfl
 have hs:prog.stoodInHeld 206=false:=by kernel_rfl
 unfold Program.keyType;rw[hn];simp[Program.keyTypeAt,underlying206,underlying9,underlying3,hc,hs]
def DX(p:ByteArray)(d:Int)(hp:p.size<=maxLen)(hd:(Lit.int .i64 d).wf=true):∃kl,keyOf prog 206 (.agg #[p,d])=some kl:=by
 obtain⟨n,hn⟩:∃n,prog.types.size=n+1:=⟨prog.types.size-1,TeT⟩;have hf:(Value.agg #[p,d]).formed prog 206=true:=by simp[Value.formed,underlying206,show prog.cellsOf 206=2 by kernel_rfl]
 have e1:prog.cellsOf 9=1:=by kernel_rfl
 have e2:prog.cellsOf 3=1:=by kernel_rfl
 have e3:prog.cellsOf 206=2:=by kernel_rfl
 have hl:prog.keyLits (n+1+1) 206 [.string p,.int .i64 d]=some [.string p.data.toList,.int .i64 d]:=by
  simp[Program.keyLits,underlying206,underlying9,underlying3,e1,e2,e3,hp,hd]
 refine⟨.string (keyBytes [.string p.data.toList,.int .i64 d]),?_⟩;unfold keyOf;rw[underlying206];simp only[];rw[EZ,hf,hn];simp only[Bool.and_self,ej];rw[show(Value.agg #[p,d]).cells.toList=[.string p,.int .i64 d] from rfl,hl];rfl
def wY(w:World):(zeroValue 4).run prog w=.ok (.bool false) w:=by kernel_rfl
variable {B bm Bt:Nat}{w w':World}{L:List (az × Nat)}{d:az}
open Classical in
noncomputable def iV(pre:List (ay × aB))(key:Value):Option Value:=if ∃q∈pre,q.2.kind=6/\key=.agg #[.string q.2.pool,.int .i64 q.2.device] then some (.bool true) else none
def pY(pre:List (ay × aB))(s:aB):Bool:=pre.any fun p=>decide (p.2.kind=6)&&(decide (p.2.pool=s.pool)&&decide (p.2.device=s.device))
def AZ(pre:List (ay × aB))(s:aB):(iV pre (.agg #[s.pool,.int .i64 s.device])).getD (.bool false)=.bool (pY pre s):=by
 unfold iV;by_cases h:pY pre s=true
 ·rw[h,aw]
  ·rfl
  obtain⟨q,hq,e⟩:=Ft.1 h;simp only[eh,fk]at e;exact⟨q,hq,e.1,by rw[e.2.1,e.2.2]⟩
 rw[bh]
 ·rw[Bool.eq_false_iff.2 h];rfl
 rintro⟨q,hq,e,k⟩;simp only[Value.agg.injEq,Array.mk.injEq,rp,Cd.injEq,Bm.injEq,and_true,true_and]at k;exact h (Ft.2 ⟨q,hq,by simp[e,k.1,k.2]⟩)
def yU(pre:List (ay × aB))(v:ay)(s:aB)(h:s.kind=6)(key:Value):iV (pre++[(v,s)]) key=upd (iV pre) (.agg #[s.pool,.int .i64 s.device]) (.bool true) key:=by
 by_cases hk:key=.agg #[s.pool,.int .i64 s.device]
 ·subst hk;rw[upd_same];unfold iV;rw[aw ⟨(v,s),Tc2,h,rfl⟩]
 rw[bP hk];unfold iV;congr 1
 refine propext ⟨?_,?_⟩
 ·rintro⟨q,hq,e,k⟩;rcases AS.1 hq with hq|hq
  ·exact⟨q,hq,e,k⟩
  obtain rfl:=AM.1 hq;exact absurd k hk
 rintro⟨q,hq,e,k⟩;exact⟨q,ju _ hq,e,k⟩
def yN(pre:List (ay × aB))(v:ay)(s:aB)(h:¬s.kind=6)(key:Value):iV (pre++[(v,s)]) key=iV pre key:=by
 unfold iV;congr 1
 refine propext ⟨?_,?_⟩
 ·rintro⟨q,hq,e,k⟩;rcases AS.1 hq with hq|hq
  ·exact⟨q,hq,e,k⟩
  obtain rfl:=AM.1 hq;exact absurd e h
 rintro⟨q,hq,e,k⟩;exact⟨q,ju _ hq,e,k⟩
def DI:(prog.info? 4).map (fun i=>(i.zero,i.size,i.bytes))=some (some (.bool false),1,1):=by kernel_rfl
def xR(d:az):(bz [] d).map FG=DE d.Gc.toNat (.bool false):=by
 refine Bk fun i=>?_;simp only[rI,List.getElem?_replicate]
 by_cases h:i<d.Gc.toNat
 ·rw[gU h,aw h];rfl
 rw[bh h,xj (by rw[gP];omega)];rfl
def AJ(d:az)(E:Nat)(hE:d.Gc.toNat=E)(h:E<=1000000)(w:World) :
  (Instr.makeSlice 202 (.int .i64 (E:Int)) (.int .i64 (E:Int))).run prog w=.ok (.slice (some w.1.size) E E) (w.alloc (.cells ((bz [] d).map FG).toArray 4)):=by
 obtain⟨i0,hi,du,On,RC⟩:=gg DI;have:=run_makeSlice w 202 4 i0 _ underlying202 hi du .i64 .i64 (E:Int) (E:Int) Tc1 Tc1 (by rw[On];simp;omega) (by rw[RC];omega) Tc1;rw[On]at this;simp only[Int.toNat_natCast,fp]at this;have e:madeCells (FG false).cells E=(DE E (FG false)).toArray:=by
  unfold madeCells;refine Array.ext Tc2 fun i h1 h2=>?_;simp[Value.cells,Nat.mod_one]
 rw[this,xR,hE,e]
structure OvL(B:Nat)(w:World)(bm Bt:Nat)(L:List (az × Nat)):Prop where
 m:uF (fun b=>b<B) w L bm
 t:kK w L []
 c:w.cell? Bt=some (.map (some bm))
 n:∀p∈L,p.2≠Bt
 bt:Bt<w.heap.size
def OvL.below(h:OvL B w bm Bt L)(hb:Below w.1.size w w'):OvL B w' bm Bt L :=
 ⟨⟨h.m.map.block (hb.block _ h.m.map.lt),h.m.nb,h.m.nn,fun p hp=>⟨cC (h.m.lt p hp).1 hb.size,(h.m.lt p hp).2⟩,h.m.de⟩,h.t.below hb,(hb.cell (p:=Bt) h.bt).trans h.c,h.n,cC h.bt hb.size⟩
def OvL.snoc{W:World}{E:Nat}(h:OvL B w bm Bt L)(hb:Below w.1.size w W)(hB:B<=W.1.size)(hd:0<=d.Gc/\d.Gc<=1000000)(hE:d.Gc.toNat=E)(hn:∀p∈L,¬p.1.name=d.name)
  (hm:bi prog 9 w' bm (L.length+1) (upd (vG L) (.string d.name) (.slice (some W.1.size) E E))) (hg:(W.alloc (.cells ((bz [] d).map FG).toArray 4)).grownBy w' (some bm)) (hz:w'.1.size=(W.alloc (.cells ((bz [] d).map FG).toArray 4)).1.size):OvL B w' bm Bt (L++[(d,W.1.size)]):=by
 have hA:=ae W (.cells ((bz [] d).map FG).toArray 4);have h1:=(h.below hb).below hA;have Hv:=h.m.map.lt;have a9:=cC Hv hb.size;have mA:=hb.size;have aa:=h.bt;have ab:(W.alloc (.cells ((bz [] d).map FG).toArray 4)).1.size=W.1.size+1:=by simp
 have gh:=b9 W (.cells ((bz [] d).map FG).toArray 4);have a7:(L++[(d,W.1.size)]).map (·.2)=L.map (·.2)++[W.1.size]:=by simp
 have a5:(L++[(d,W.1.size)]).map (·.1.name)=L.map (·.1.name)++[d.name]:=by simp
 generalize R0:AI W _=W1 at *;have hlt:∀p∈L++[(d,W.1.size)],p.2<w'.1.size/\¬p.2<B/\p.2≠bm:=fun p hp=>by
  rcases AS.1 hp with hp|hp
  ·obtain⟨a,b,c⟩:=h1.m.lt p hp;exact⟨Tc1,b,c⟩
  obtain rfl:=AM.1 hp;exact⟨by show W.1.size<_;omega,by show ¬W.1.size<B;omega,by show W.1.size≠bm;omega⟩
 have sy:∀b,b<W1.1.size->b≠bm->w'.1[b]?=W1.1[b]?:=fun b hb hne=>oJ hg hb hne;have VV:=h1.bt
 have Rw:Bt≠bm:=by
  rintro rfl;exact absurd h.c (by
   obtain⟨D,⟨es,a8,e,_⟩,_⟩:=h.m.map;simp[AN,e])
 refine⟨⟨?_,?_,?_,hlt,?_⟩,?_,?_,?_,Tc1⟩
 ·rw[cD];refine hm.congr fun key _ _=>?_;rw[Av L d _ hn key,hE]
 ·rw[a7,List.nodup_append];refine⟨h.m.nb,Tc2,fun a ha b hb=>?_⟩;obtain⟨p,hp,rfl⟩:=As.1 ha;obtain rfl:=AM.1 hb;have:=(h.m.lt p hp).1;omega
 ·rw[a5,List.nodup_append];refine⟨h.m.nn,Tc2,fun a ha b hb=>?_⟩;obtain⟨p,hp,rfl⟩:=As.1 ha;obtain rfl:=AM.1 hb;exact hn p hp
 ·intro p hp;rcases AS.1 hp with hp|hp
  ·exact h.m.de p hp
  obtain rfl:=AM.1 hp;exact hd
 ·intro p hp;rcases AS.1 hp with hp|hp
  ·have:=h1.m.lt p hp;exact(sy _ this.1 this.2.2).trans (h1.t p hp)
  obtain rfl:=AM.1 hp;exact(sy _ (by show W.1.size<_;omega) (by show W.1.size≠bm;omega)).trans gh
 ·exact(cd (a:=Bt) (sy Bt VV Rw)).trans h1.c
 intro p hp;rcases AS.1 hp with hp|hp
 ·exact h.n p hp
 obtain rfl:=AM.1 hp;show W.1.size≠Bt;omega
def uF.mod{ok:Nat->Prop}(h:uF ok w L bm)(hm:cR (Gm L) w w'):uF ok w' L bm :=
 ⟨h.map.block (hm.block _ h.map.lt fun⟨p,hp,e⟩=>(h.lt p hp).2.2 e),h.nb,h.nn,fun p hp=>⟨cC (h.lt p hp).1 hm.size,(h.lt p hp).2⟩,h.de⟩
def wm(pre:List (ay × aB))(v:ay)(s:aB):lU (pre++[(v,s)])=lU pre++dC (aX s) s.Ga:=by simp[lU]
def zn{Gb:List az}(h:(Gb.map (·.name)).Nodup){k:Nat}(hd:Gb[k]?=some d)(hL:L.map (·.1)=Gb.take k):∀p∈L,¬p.1.name=d.name:=fun p hp e=>by
 have h1:p.1∈Gb.take k:=by rw[<- hL];exact List.mem_map_of_mem hp
 obtain⟨i,hi,Yv⟩:=List.mem_iff_getElem.1 h1;rw[ey]at hi;rw[List.getElem_take]at Yv;obtain⟨hk,hdk⟩:=AT.1 hd;have Ua:=It.1 h i k (by rw[fW];omega) (by rw[fW];omega) Tc1;rw[List.getElem_map,List.getElem_map,Yv,hdk]at Ua;exact Ua e
def Cs(key:Value):vG [] key=none:=by
 unfold vG;split<;>rfl
structure FL(g:af):Prop where
 nd:(g.Gb.map (·.name)).Nodup
 ns:∀d∈g.Gb,d.name.size<=maxLen
 dl:g.Gb.length<=1000000
 sg:∀v∈g.F9,∀s∈v.Gf,wM s/\1<=aX s/\(∀a∈s.Ga,a.vol=false->a.on.size<=maxLen/\∃d,bH g.Gb a.on=some d/\0<=a.start/\aX s<=d.Gc-a.start)/\s.pool.size<=maxLen/\(Lit.int .i64 s.device).wf=true
 pl:(aA g.F9).length<=1000000
attribute [local go_sem] run_makeMap_plain
end Go.Proofs.YtaagglbgohjldaaGreatDoor
namespace Go.Proofs.YtaagglbgohjldaaGreatDoor
open Go.Proofs.Tryz
open Go.RowKit Go.Maps Go.Shelf
variable {w:World}{b:Nat}{l:List ByteArray}
def gm.nil(h:bi prog 9 w b 0 (fun _=>none)):gm w b []:=h.congr fun key _ _=>by
 unfold cntF;split
 ·simp[iJ]
 rfl
def gm.block{w':World}(h:gm w b l)(hb:w'.1[b]?=w.1[b]?):gm w' b l:=bi.block h hb
def gm.lt(h:gm w b l):b<w.1.size:=bi.lt h
def Ag(l:List ByteArray)(s:ByteArray):iJ l s<=l.length:=List.countP_le_length
def wu{F9:List ay}{pre post:List (ay × aB)}{v:ay}{s:aB}(h:aA F9=pre++(v,s) :: post)(pool:Bool):(dA pre pool).length+(dD s pool).length<=(dA (aA F9) pool).length:=by
 rw[h];simp[dA]
attribute [local go_sem] run_makeMap_plain
end Go.Proofs.YtaagglbgohjldaaGreatDoor
