/- Lemmas: SpG, Nam, NamB, NamC, Mpv, Chk, ModA, Box, MkT, ModB, ModC, ModD, Sto, ModE, ModF, ModG, ModH, ModI, ModJ, ModK, ModL, ModZ, NeeA, ModM, ModN, ModO, ModP, ModQ, ModR, ModS, ModT, ModU, ModV. -/
import Derived.Test.YtfmbphdjcghfnaaGreatDoorQl03
import Derived.Laws.EntriesVeiled
import Derived.WideMake
set_option maxRecDepth 100000
set_option maxHeartbeats 32000000
set_option linter.all false
open List renaming length→Wq,mem_append→AS,mem_singleton→AM,mem_map→As,mem_flatMap→BY,replicate→DE,getElem?_eq_some_iff→AT,pairwise_cons→IN,isSuffixOf_iff_suffix→OK,range→FF,cons_append→IT,nil_append→GO,singleton_inj→IF,mem_cons→DQ,any_eq_true→GP
open Array renaming getElem?_eq_some_iff→F1
open Go.World renaming cell?→AN,frozen?→BT,alloc→AI,setCell→AF
open Go.Lib renaming hasSuffix→DH
open Go.Value renaming string→By,slice→FG,int→Bm,bool→Ft
open Go.IntKind renaming i64→Sj,u64→U8
open Go.Obj renaming cells→Sx
open Go.Value renaming pointer→SL,agg→Tk,tuple→Vj
open Go.Ending renaming returned→S6
open Option renaming some→Vv,none→VX
open Bool renaming false→VN,true→VR
open Decidable renaming decide→V7
namespace Go.Proofs.YtfmbphdjcghfnaaGreatDoor
variable{gt:Prop}
open Go.Proofs.Tryz
open Go.RowKit
variable{V w:H7}{F:LN}{name nm on:H6}{l names:QN}{c0 c10 c4 c7 c8 v z:zY}{next:PI}{Q:N2}{u:RH}{x:az}{k kind n s:Int}{B' Bx b bs bv c cap i qS row sz:Nat}{a:Act}{α β:Type}{Tz hd:Bool}{Gb:wy az}{o:Option zY}{a5 a7:Array Oper}{f g:zY->Option zY}
section
variable {l l':wy aB}{id c:Int}{ns:QN}{ls next' n0:PI}{ps:wy (H6 × H5)}{vl tl:wy ay}{name:H6}{k j i:Nat}{g g' g0:af}
def xe(s:aB):Prop:=(0<=s.length/\s.length<=1000000)/\Wq s.Ga<=1000/\(fP s->∀a∈s.Ga,a.vol=VN)
def uC(v:ay):Prop:=Wq v.Gf<=1000/\∀s∈v.Gf,xe s
def Td0(h:gt:=by simp[dE]):=h
def uE(n:Int)(on:H6)(s:Int)(h:0<=n/\n<=1000):xe (dE n on s):=⟨Td6,Td0,fun _ a ha=>by
 obtain rfl:a=⟨VN,on,s⟩:=by simpa[dE]using ha
 rfl⟩
theorem BJ{id:Int}(h:0<=n/\n<=1000):uC (eD name id hd n on s):=⟨by simp[eD],fun x hx=>by
 obtain rfl:x=dE n on s:=by simpa[eD]using hx
 exact uE n on s h⟩
def Tdp(h:gt:=by simp[aV]):=h
def fB.ok(h:fB l l')(hl:∀s∈l,xe s):∀s∈l',xe s:=by
 induction h with
 |nil=>exact hl
 |void _ hn hk ih =>
  intro s hs;rcases AS.1 hs with q|q
  ·exact ih s q
  obtain rfl:=AM.1 q;exact⟨TdA,Tdp,fun _ a ha=>by simp[aV]at ha⟩
 |lin _ hn ih =>
  intro s hs;rcases AS.1 hs with q|q
  ·exact ih s q
  obtain rfl:=AM.1 q;refine⟨TdA,Tdp,fun _ a ha=>?_⟩;simp only[aV,dr,cY,dg]at ha;rw[ha]
 |move _ hn _ ih =>
  intro s hs;rcases AS.1 hs with q|q
  ·exact ih s q
  obtain rfl:=AM.1 q;refine⟨TdA,Tdp,fun _ a ha=>?_⟩;simp only[aV,dr,cY,dg]at ha;rcases ha with rfl|rfl<;>rfl
theorem lD.ok(h:lD id c ns ls ps vl)(hl:∀l∈ls,1<=l/\l<=1000):∀v∈vl,uC v:=by
 induction h with
 |nil=>intro v hv;cases hv
 |snoc h ih =>
  intro v hv;rcases AS.1 hv with q|q
  ·exact ih (fun l a5=>hl l (ju _ a5)) v q
  obtain rfl:=AM.1 q;have:=hl _ (P9 _ (AM.2 lX));exact BJ WQ
theorem iO.ok(h:iO id name k c j tl):∀v∈tl,uC v:=by
 induction h with
 |nil=>intro v hv;cases hv
 |snoc h hl ih =>
  intro v hv;rcases AS.1 hv with q|q
  ·exact ih v q
  obtain rfl:=AM.1 q;refine⟨by simp[jY],fun s hs=>?_⟩;obtain rfl:=AM.1 hs;exact⟨Tdf,XN,fun _ a ha=>by simp at ha⟩
def lZ.seg{e:Int}{a5:PI}{x:aB}(h:lZ e n name kind names a5 x)(hn:1<=n/\n<=3):xe x:=by
 have nd:∀k:Int,k=3\/k=4\/k=5\/k=7->¬(k=1\/k=2\/k=8):=fun k h=>by omega
 cases h with
 |mirror k hk c hc st hst=>exact⟨Tdf,TdB,fun q=>absurd q (nd 3 WQ)⟩
 |mirrorLog k hk c hc st hst=>exact⟨Tdf,TdB,fun q=>absurd q (nd 3 WQ)⟩
 |parity k hk c hc =>
  refine⟨?_,TdB,fun q=>absurd q (nd 4 WQ)⟩;dsimp only;rcases(show n=1\/n=2\/n=3 by omega)with rfl|rfl|rfl<;>omega
 |pool l c hl hc=>exact⟨Tdf,by simp[gB],fun q=>absurd q (nd 5 WQ)⟩
 |cache l m c hl hm hc=>exact⟨Tdf,by simp[gB],fun q=>absurd q (nd 7 WQ)⟩
def Teo(h:gt:=by simp only[ic];omega):=h
def iy.ok(h:iy name g next g' next')(he:1<=g.Gd/\g.Gd<=16)(hv:∀v∈g.F9,uC v):∀v∈g'.F9,uC v:=by
 cases h with
 |linF=>exact hv
 |lin hn h1 hm hl h2 hs =>
  intro v a5;rcases AS.1 a5 with q|q
  ·exact hv v q
  obtain rfl:=AM.1 q;exact⟨Tdf,hm.ok fun s hs=>by obtain rfl:=AM.1 hs;exact uE _ _ _ WQ⟩
 |strF h=>exact hv
 |@str k n al next' hk hn hl ha h =>
  intro v a5;rcases AS.1 a5 with q|q
  ·exact hv v q
  obtain rfl:=AM.1 q;refine⟨by simp[tC],fun s hs=>?_⟩;obtain rfl:=AM.1 hs;refine⟨?_,Teo,fun _ a h=>ha a (by simpa[ic]using h)⟩;simp only[ic];rcases(show n=1\/n=2 by omega)with rfl|rfl<;>omega
 |compF h=>exact hv
 |comp AK hn hR hH hT ht hk hk5 hth =>
  intro v a5;have hl:=(hR.ok he.1 he.2 hn.1 hn.2).2.2;rcases AS.1 a5 with q|q
  ·rcases AS.1 q with q|q
   ·rcases AS.1 q with q|q
    ·exact hv v q
    exact hH.ok hl v q
   obtain rfl:=AM.1 q;exact⟨XN,fun s hs=>by obtain rfl:=AM.1 hs;exact hR.seg hn⟩
  exact hth.ok v q
def bZ.ok{c:Nat}(h0:g0.F9=[]/\g0.next=0)(he:1<=g0.Gd/\g0.Gd<=16)(hd:DOk g0.Gb n0)(h:bZ c g0 n0 i g next):∀v∈g.F9,uC v:=by
 induction h with
 |nil=>rw[h0.1];intro v hv;cases hv
 |@step i g g' next next' h hs ih=>exact hs.ok (by rw[(bZ.bd h0 he hd h).same.2.2.2.1];exact he) ih
def fZ.bd{a b:PI}(h:fZ Gb a ps b)(k:DOk Gb a):∀q∈ps,0<=q.2.1/\q.2.1<=1000:=by
 induction h with
 |nil=>intro q hq;cases hq
 |snoc h hd hm h1 h2 h3 ih =>
  intro q hq;rcases AS.1 hq with q1|q1
  ·exact ih q q1
  obtain rfl:=AM.1 q1;have:=(h.ok k).nx _ _ hm;have:=(h.ok k).ext _ (ct hd);dsimp only;omega
def fB.tail(h:fB l l'):∃r,l'=l++r/\∀x∈r,x.kind≠2/\Wq x.Ga<=2:=by
 induction h with
 |nil=>exact⟨[],XN,fun x hx=>by cases hx⟩
 |@void l' n kind _ hn hk ih =>
  obtain⟨r,e,h⟩:=ih;refine⟨r++[aV (bg l') n kind [] 0],by rw[e,cV],fun x hx=>?_⟩;rcases AS.1 hx with q|q
  ·exact h x q
  obtain rfl:=AM.1 q;exact⟨TdA,Tdp⟩
 |@lin l' n s on _ hn ih =>
  obtain⟨r,e,h⟩:=ih;refine⟨r++[aV (bg l') n 1 [⟨VN,on,s⟩] 0],by rw[e,cV],fun x hx=>?_⟩;rcases AS.1 hx with q|q
  ·exact h x q
  obtain rfl:=AM.1 q;exact⟨Tdp,Tdp⟩
 |@move l' n s s' dn on on' _ hn hd ih =>
  obtain⟨r,e,h⟩:=ih;refine⟨r++[aV (bg l') n 8 [⟨VN,on,s⟩,⟨VN,on',s'⟩] dn],by rw[e,cV],fun x hx=>?_⟩;rcases AS.1 hx with q|q
  ·exact h x q
  obtain rfl:=AM.1 q;exact⟨Tdp,Tdp⟩
def zg(v:ay):Prop:=(∀p∈aW v,0<=p.start/\p.start<=1000)/\(aW v).length<=12
def jq{s:aB}:(aK name s).length<=Wq s.Ga:=by
 unfold aK;split<;>simp
def gK{s:aB}{p:gy}(h:p∈aK name s):fP s/\∃a∈s.Ga,p=aJ name s a:=by
 unfold aK at h;split at h
 ·rename_i ho;obtain⟨a,ha,rfl⟩:=As.1 h;exact⟨ho,a,ha,rfl⟩
 cases h
def gV(f:α->wy β)(m:Nat):∀l:wy α,(∀x∈l,(f x).length<=m)->(l.flatMap f).length<=l.length*m
 |[],_=>by simp
 |x :: l,h=>by
  have h1:=h x (cG ..);have h2:=gV f m l fun y hy=>h y (kn _ hy);rw[lB,cD,cS,P7];omega
def Teb(h:gt:=by rw[e];simp):=h
def um{v:ay}(h:∀s∈v.Gf,¬fP s):zg v:=by
 have e:aW v=[]:=List.eq_nil_iff_forall_not_mem.2 fun p hp=>by
  obtain⟨s,hs,hp⟩:=BY.1 hp;exact h s hs (gK hp).1
 exact⟨(by rw[e];intro p hp;cases hp),Teb⟩
theorem DU{id:Int}(h:0<=s/\s<=1000):zg (eD name id hd n on s):=by
 refine⟨fun p hp=>?_,?_⟩
 ·obtain⟨x,hx,hp⟩:=BY.1 hp;obtain rfl:=AM.1 hx;obtain⟨_,a,ha,rfl⟩:=gK hp;obtain rfl:=AM.1 ha;exact h
 have:=gV (aK name) 1 [dE n on s] fun x hx=>by obtain rfl:=AM.1 hx;exact jq
 exact cA this XN
theorem lD.pc(h:lD id c ns ls ps vl)(hl:∀q∈ps,0<=q.2.1/\q.2.1<=1000):∀v∈vl,zg v:=by
 induction h with
 |nil=>intro v hv;cases hv
 |snoc h ih =>
  intro v hv;rcases AS.1 hv with q|q
  ·exact ih (fun l a5=>hl l (ju _ a5)) v q
  obtain rfl:=AM.1 q;exact DU (hl _ (P9 _ (AM.2 lX)))
theorem iO.pc(h:iO id name k c j tl):∀v∈tl,zg v:=by
 induction h with
 |nil=>intro v hv;cases hv
 |snoc h hl ih =>
  intro v hv;rcases AS.1 hv with q|q
  ·exact ih v q
  obtain rfl:=AM.1 q;refine um fun s hs=>?_;obtain rfl:=AM.1 hs;rintro(q|q|q)<;>simp at q
def iy.pc(h:iy name g next g' next')(hk:DOk g.Gb next)(hv:∀v∈g.F9,zg v):∀v∈g'.F9,zg v:=by
 cases h with
 |linF=>exact hv
 |@lin n s on next1 next' Gf ps hn h1 hm hl h2 hs =>
  intro v a5;rcases AS.1 a5 with q|q
  ·exact hv v q
  obtain rfl:=AM.1 q;obtain⟨r,e,hr⟩:=hm.tail;subst e;have b1:=h1.bd hk _ (AM.2 lX);have b2:=h2.bd (h1.ok hk);simp only[cD,cS,ux]at hl;refine⟨fun p hp=>?_,?_⟩
  ·obtain⟨x,hx,hp⟩:=BY.1 hp;obtain⟨ho,a,ha,rfl⟩:=gK hp;rcases AS.1 hx with hx|hx
   ·obtain rfl:=AM.1 hx;obtain rfl:=AM.1 ha;exact b1
   have hk2:=(hr x hx).1;have C1:x.kind=1\/x.kind=8:=by
    rcases ho with q|q|q
    ·exact .inl q
    ·exact absurd q hk2
    exact .inr q
   refine b2 (a.on,a.start,x.length) (hs.subset ?_);refine BY.2 ⟨x,hx,?_⟩;unfold iG;rw[aw C1];exact As.2 ⟨a,ha,rfl⟩
  have:=gV (aK name) 2 ([dE n on s]++r) fun x hx=>by
   refine cA (jq) ?_;rcases AS.1 hx with hx|hx
   ·obtain rfl:=AM.1 hx;simp[dE]
   exact(hr x hx).2
  refine cA this ?_;simp only[cD,cS,ux];omega
 |strF h=>exact hv
 |@str k n al next' hk' hn hl ha h =>
  intro v a5;rcases AS.1 a5 with q|q
  ·exact hv v q
  obtain rfl:=AM.1 q;have b:=h.bd hk;refine⟨fun p hp=>?_,?_⟩
  ·obtain⟨x,hx,hp⟩:=BY.1 hp;obtain rfl:=AM.1 hx;obtain⟨_,a,a7,rfl⟩:=gK hp;exact b (a.on,a.start,n) (As.2 ⟨a,by simpa[ic]using a7,rfl⟩)
  have:=gV (aK name) 3 [ic k n al] fun x hx=>by
   obtain rfl:=AM.1 hx;refine cA (jq) ?_;simp only[ic];omega
  exact cA this XN
 |compF h=>exact hv
 |comp AK hn hR hH hT ht hk' hk5 hth =>
  intro v a5;rcases AS.1 a5 with q|q
  ·rcases AS.1 q with q|q
   ·rcases AS.1 q with q|q
    ·exact hv v q
    exact hH.pc (hT.bd hk) v q
   obtain rfl:=AM.1 q;refine um fun s hs=>?_;obtain rfl:=AM.1 hs;cases hR<;>(rintro(q|q|q)<;>simp at q)
  exact hth.pc v q
def bZ.pc{c:Nat}(h0:g0.F9=[]/\g0.next=0)(he:1<=g0.Gd/\g0.Gd<=16)(hd:DOk g0.Gb n0)(h:bZ c g0 n0 i g next):∀v∈g.F9,zg v:=by
 induction h with
 |nil=>rw[h0.1];intro v hv;cases hv
 |@step i g g' next next' h hs ih =>
  have b:=bZ.bd h0 he hd h;exact hs.pc (by rw[b.same.2.2.2.2.2.1];exact b.dk) ih
structure Fv(g:af):Prop where
 dl:Wq g.Gb<=4
 dtags:∀D∈g.Gb,Wq D.tags<=1000
 dext:∀D∈g.Gb,0<=D.Gc/\D.Gc<=60
 dfind:∀(i:Nat) (D:az),g.Gb[i]?=Vv D->bH g.Gb D.name=Vv D
 vl:Wq g.F9<=44
 tame:qx g.F9
 ps:∀p∈pieces g.F9,0<=p.start/\p.start<=1000
 pn:(pieces g.F9).length<=1000
def Fq(hi:i<=3)(hj:j<=3)(h:pvT++digit i=pvT++digit j):i=j:=by
 have h2:=fj (fun b:H6=>b.data.toList) h;rcases(show i=0\/i=1\/i=2\/i=3 by omega)with rfl|rfl|rfl|rfl<;>rcases(show j=0\/j=1\/j=2\/j=3 by omega)with rfl|rfl|rfl|rfl<;>first|rfl|(exfalso;revert h2;decide)
def TcE(h:gt:=by
 obtain⟨k,hk⟩:=fc hD;have:=(hdk k D hk).ext;simp only[dr,cY,dg]at this;omega):=h
def sU.tame(h:sU g):Fv g:=by
 obtain⟨c,g0,g1,next,hc,_,_,_,a9,a5,_,hv0,_,CD,hdk,ye,hg,_,_⟩:=h.ex;have a7:1<=g0.Gd/\g0.Gd<=16:=by
  simp only[dr,cY,dg]at a9;omega
 have vu:∀D∈g0.Gb,0<=D.Gc/\D.Gc<=60:=fun D hD=>by
  exact TcE
 have a8:DOk g0.Gb (DE (Wq g0.Gb) 0):=⟨XN,WQ,WQ,fun D hD=>by have:=vu D hD;omega,fun d m hm=>by
  have:=ct hm;rw[tM]at this;omega⟩
 have b:=bZ.bd ⟨hv0,a5⟩ a7 a8 ye;have ok:=bZ.ok ⟨hv0,a5⟩ a7 a8 ye;have pc:=bZ.pc ⟨hv0,a5⟩ a7 a8 ye;have ed:g.Gb=g0.Gb:=by rw[hg];exact b.same.2.2.2.2.2.1
 have ev:g.F9=g1.F9:=by rw[hg]
 have mb:=b.F9;have S8:Wq g1.F9<=44:=by omega
 refine⟨by rw[ed];omega,fun D hD=>?_,fun D hD=>vu D (ed ▸ hD),fun i D hD=>?_,by rw[ev];exact S8,by rw[ev];exact ok,fun p hp=>?_,?_⟩
 ·rw[ed]at hD;obtain⟨k,hk⟩:=fc hD;have:=(hdk k D hk).tags.length_le;have e:iQ.length=4:=rfl;omega
 ·rw[ed]at hD ⊢;have hi:=(AT.1 hD).1;refine pR (k:=i) (fun j E hj hE e=>?_) hD lX;rw[(hdk j E hE).name,(hdk i D hD).name]at e;have:=Fq WQ WQ e;omega
 ·rw[ev]at hp;obtain⟨v,hv,hp⟩:=BY.1 hp;exact(pc v hv).1 p hp
 rw[ev];have:=gV aW 12 g1.F9 fun v hv=>(pc v hv).2;unfold pieces;omega
def Nl:∀(x:RU) (lo hi:Int),lo<=hi->(∀p∈x,1<=p.2)->x.Pairwise (fun p q=>p.1+p.2<q.1)->(∀p∈x,lo<=p.1/\p.1+p.2<=hi)->0<=ze x/\ze x<=hi-lo
 |[],lo,hi,h,_,_,_=>by simp[ze];omega
 |p :: l,lo,hi,h,h1,h2,h3=>by
  have b:=h3 p (cG ..);have c:=h1 p (cG ..);rw[IN]at h2;have:=Nl l (p.1+p.2) hi WQ (fun q hq=>h1 q (kn _ hq)) h2.2 (fun q hq=>⟨by have:=h2.1 q hq;omega,(h3 q (kn _ hq)).2⟩);simp only[ze,iu,List.sum_cons]at this ⊢;omega
def iE.sum_bd{x:RU}{S:Int->Prop}{ext:Int}(h:iE x S)(he:0<=ext)(hS:∀n,S n->0<=n/\n<ext):0<=ze x/\ze x<=ext:=by
 have:=Nl x 0 ext he h.1.1 h.1.2 fun p hp=>by
  have c:=h.1.1 p hp;have h1:=hS _ ((h.2 p.1).1 ⟨p,hp,WQ,WQ⟩);have h2:=hS _ ((h.2 (p.1+p.2-1)).1 ⟨p,hp,WQ,WQ⟩);omega
 omega
def UU(a k:Int):Int:=bits BinOp.or IntKind.u64 a (IntKind.u64.wrap (2 ^ k.toNat))
def wD(s:H5)(c:Int):H5:=if c<64 then(UU s.1 (c%64),s.2) else(s.1,UU s.2 (c%64))
def gz(w:H7)(b:Nat)(s:H5):Prop:=w.1[b]?=Vv (Sx #[Bm U8 s.1,Bm U8 s.2] 207 (0,0))
def pQ(c:Int){s:H5}(h0:0<=c)(h1:c<128)(hb:gz w b s):Calls prog 179 #[Bm .u8 c,SL (Vv b)] w fun e w'=>e=S6 (Vj #[])/\gz w' b (wD s c)/\cR (fun i=>i=b) w w':=by
 have c0:w.cell? b=Vv (Bm U8 s.1):=by simp[AN,show w.1[b]?=_ from hb]
 have f0:w.frozen? b=VN:=by simp[BT,show w.1[b]?=_ from hb]
 have c1:w.cell? (XM b 1)=Vv (Bm U8 s.2):=by simp[AN,show w.1[b]?=_ from hb]
 have f1:w.frozen? (XM b 1)=VN:=by simp[BT,show w.1[b]?=_ from hb]
 replace hb:=aa hb;by_cases hc:c<64
 ·have hq:c/64=0:=by omega
  go_enter func179,ntmps179;go_wp2
  go_end0
  refine⟨rfl,?_,(cR.refl (fun i=>i=b) w).setCell (p:=b) (.inl lX) _⟩;have:=block_setCell (i:=0) (Bm U8 (UU s.1 (c%64))) hb.o;unfold gz wD;rw[aw hc];exact this
 have hq:c/64=1:=by omega
 go_enter func179,ntmps179;go_wp2
 go_end0
 refine⟨rfl,?_,(cR.refl (fun i=>i=b) w).setCell (p:=⟨b,1,VX⟩) (.inl lX) _⟩;have:=block_setCell (i:=1) (Bm U8 (UU s.2 (c%64))) hb.o;unfold gz wD;rw[bh WQ];exact this
def mK:Nat->H5
 |0=>(0,0)
 |k+1=>wD (wD (mK k) (97+k)) (65+k)
def BI(s:H5):Nat->H5
 |0=>s
 |k+1=>wD (BI s k) (48+k)
def xE(s:H5)(l:wy UInt8):H5:=l.foldl (fun s c=>wD s c.toNat) s
def setS(l:wy UInt8):H5:=xE (BI (mK 26) 10) l
def gz.lt{s:H5}(h:gz w b s):b<w.1.size:=aq h
def yD(s:H5){l:wy UInt8}(k:Nat){c:UInt8}(h:l[k]?=Vv c):xE s (l.take (k+1))=wD (xE s (l.take k)) c.toNat:=by
 rw[take_snoc' l k c h,xE,List.foldl_append];rfl
def Tew(h:gt:=by intro i hi;omega):=h
def qy(s:H6)(w:H7)(hl:∀c∈s.data.toList,c.toNat<128)(hn:s.size<=100):Calls prog 161 #[By s] w fun e w'=>e=S6 (Tk #[Bm U8 (setS s.data.toList).1,Bm U8 (setS s.data.toList).2])/\Below w.1.size w w':=by
 replace hl:=aa hl;go_enter func161,ntmps161;go_wp2
 go_loopw[5] (fun c wr=>∃k:Nat,k<=26/\c=Bm .u8 (97+k)/\gz wr (w.1.size+1) (mK k)/\gz wr w.1.size (0,0)/\Below w.1.size w wr) (fun c _=>123-(intOf c).toNat)
 case atStart =>
  refine⟨0,WQ,rfl,?_,?_,((bj _ _).alloc (bk _) _).alloc XN _⟩
  ·have:=b9 (w.alloc (Sx #[Bm U8 0,Bm U8 0] 207)) (Sx #[Bm U8 0,Bm U8 0] 207);rw[cW]at this;exact this
  exact(cj _ _ _ XN).trans (b9 w _)
 obtain⟨k,hk,rfl,hs,hr,hB⟩:=hrel;have HR:=aa hr;clear hr;have HS:=aa hs;clear hs;by_cases hlt:k<26
 ·go_wp2_with fail;refine(pQ (97+(k:Int)) (s:=mK k) WQ WQ HS.o).mono ?_;rintro e w1 ⟨rfl,hs1,a5⟩;have HR1:Hid (gz w1 w.1.size (0,0)):=aa ((a5.block _ HR.o.lt WQ).trans HR.o);have a8:=aa hs1;clear hs1;have a7:Below w.1.size w w1:=hB.trans (a5.below hB.size Tew);clear hB a5;go_wp2_with fail;refine(pQ (97+(k:Int)-97+65) WQ WQ a8.o).mono ?_;rintro e w2 ⟨rfl,hs2,ae⟩;have E3:Hid (gz w2 w.1.size (0,0)):=aa ((ae.block _ HR1.o.lt WQ).trans HR1.o);replace hs2:=aa hs2;have af:Below w.1.size w w2:=a7.trans (ae.below a7.size Tew);clear a7 ae;go_wp2;go_roundw
  case rel =>
   refine⟨k+1,WQ,Zf,?_,E3.o,af⟩;have:=hs2.o;rw[show(97+(k:Int)-97+65)=65+k from by omega]at this;exact this
  simp[intOf];omega
 have a9:Hid (gz wr (w.1.size+1) (mK 26)):=aa (by have:=HS.o;rwa[show k=26 from by omega]at this);clear HS;have HS:=a9;go_wp2;go_loopw[6] (fun c wr=>∃k:Nat,k<=10/\c=Bm .u8 (48+k)/\gz wr (w.1.size+1) (BI (mK 26) k)/\gz wr w.1.size (0,0)/\Below w.1.size w wr) (fun c _=>58-(intOf c).toNat)
 exact⟨0,WQ,rfl,HS.o,HR.o,hB⟩;clear HR HS hB a9;have ag:=hk;clear hk;rename_i hlt26;obtain⟨k,hk,rfl,hs,hr,hB⟩:=hrel;have HR:=aa hr;clear hr;have HS:=aa hs;clear hs;by_cases hlt:k<10
 ·go_wp2_with fail;refine(pQ (48+(k:Int)) WQ WQ HS.o).mono ?_;rintro e w1 ⟨rfl,hs1,a5⟩;have HR1:Hid (gz w1 w.1.size (0,0)):=aa ((a5.block _ HR.o.lt WQ).trans HR.o);have a8:=aa hs1;clear hs1;have a7:Below w.1.size w w1:=hB.trans (a5.below hB.size Tew);clear hB a5;go_wp2;go_roundw;exact⟨k+1,WQ,Zf,a8.o,HR1.o,a7⟩;exact Ti
 have ab:Hid (gz wr (w.1.size+1) (BI (mK 26) 10)):=aa (by have:=HS.o;rwa[show k=10 from by omega]at this);clear HS;have HS:=ab;go_wp2;go_loopw[30,7] (fun i _ wr=>∃k:Nat,k<=s.size/\i=Bm Sj k/\gz wr (w.1.size+1) (xE (BI (mK 26) 10) (s.data.toList.take k))/\gz wr w.1.size (0,0)/\Below w.1.size w wr) (fun i _ _=>s.size-(intOf i).toNat)
 exact⟨0,cg _,rfl,HS.o,HR.o,hB⟩;clear HR HS hB ab;have ah:=hk;clear hk;rename_i hlt10;obtain⟨k,hk,rfl,hs,hr,hB⟩:=hrel;have HR:=aa hr;clear hr;have HS:=aa hs;clear hs;by_cases hlt:k<s.size
 ·have hc:s.data.toList[k]?=Vv s[k]:=by
   rw[lO Tex];rfl
  have ai:=hl.o _ (ct hc);have HM:=aa (yD (BI (mK 26) 10) k hc);clear hc;go_wp2_with fail;refine(pQ _ WQ WQ HS.o).mono ?_;rintro e w1 ⟨rfl,hs1,a5⟩;have HR1:Hid (gz w1 w.1.size (0,0)):=aa ((a5.block _ HR.o.lt WQ).trans HR.o);have a8:=aa hs1;clear hs1;have a7:Below w.1.size w w1:=hB.trans (a5.below hB.size Tew);clear hB a5;go_wp2;go_roundw;exact⟨k+1,WQ,Zf,by rw[HM.o];exact a8.o,HR1.o,a7⟩;exact Ti
 obtain rfl:k=s.size:=by omega
 have hm:gz wr (w.1.size+1) (setS s.data.toList):=by
  have:=HS.o;rwa[jz XN]at this
 have m0:wr.cell? (XM (w.1.size+1) 0)=Vv (Bm U8 (setS s.data.toList).1):=by simp[AN,show wr.1[w.1.size+1]?=_ from hm]
 have m1:wr.cell? (XM (w.1.size+1) 1)=Vv (Bm U8 (setS s.data.toList).2):=by simp[AN,show wr.1[w.1.size+1]?=_ from hm]
 have f0:wr.frozen? w.1.size=VN:=by simp[BT,show wr.1[w.1.size]?=_ from HR.o]
 have f1:wr.frozen? (XM w.1.size 1)=VN:=by simp[BT,show wr.1[w.1.size]?=_ from HR.o]
 have r0:wr.cell? w.1.size=Vv (Bm U8 0):=by simp[AN,show wr.1[w.1.size]?=_ from HR.o]
 have r1:wr.cell? (XM w.1.size 1)=Vv (Bm U8 0):=by simp[AN,show wr.1[w.1.size]?=_ from HR.o]
 clear hm;go_wp2;refine eC (v:=Tk #[Bm U8 (setS s.data.toList).1,Bm U8 (setS s.data.toList).2]) (by simp[results,Tryz.results161,go_sem,r0,r1,m0,m1]) lX ⟨rfl,(hB.setCell (p:=w.1.size) (bk _) _).setCell (p:=⟨w.1.size,1,VX⟩) (bk _) _⟩
def Ei(s:H5)(c:Nat):Bool:=if c<64 then !(bits BinOp.and IntKind.u64 (s.1/2 ^ (c%64)) 1==0) else !(bits BinOp.and IntKind.u64 (s.2/2 ^ (c%64)) 1==0)
def kT(s:H5)(c:UInt8):Bool:=V7 (c.toNat<128)&&Ei s c.toNat
def wS(t:H5)(s:H6):Bool:=s.data.toList.all (kT t)
def TeE(h:gt:=by simpa using(List.getElem?_eq_some_iff.1 hj).1):=h
theorem zP(t:H5)(s:H6)(hn:s.size<=9223372036854775807):Calls prog 162 #[Tk #[Bm U8 t.1,Bm U8 t.2],By s] w fun e w'=>e=S6 (Ft (wS t s))/\Below w.1.size w w':=by
 have HB:=aa (ae w (Sx #[Bm U8 t.1,Bm U8 t.2] 207));have t0:(w.alloc (Sx #[Bm U8 t.1,Bm U8 t.2] 207)).cell? w.1.size=Vv (Bm U8 t.1):=aD lX rfl;have t1:(w.alloc (Sx #[Bm U8 t.1,Bm U8 t.2] 207)).cell? (XM w.1.size 1)=Vv (Bm U8 t.2):=aD lX rfl;go_enter func162,ntmps162;go_wp2;generalize hW:AI w _=W at *;replace hW:=aa hW
 go_loop[9,5,6] (fun i _ _=>∃k:Nat,k<=s.size/\i=Bm Sj k/\(∀j,j<k->∀c,s.data.toList[j]?=Vv c->kT t c=VR)) (fun i _ _=>s.size-(intOf i).toNat)
 exact⟨0,cg _,rfl,fun j hj=>by omega⟩;obtain⟨k,hk,rfl,hall⟩:=hrel;replace hall:=aa hall;by_cases hlt:k<s.size
 ·have hc:s.data.toList[k]?=Vv s[k]:=by
   rw[lO Tex];rfl
  replace hc:=aa hc;have HU:Hid (∀b:Bool,kT t s[k]=b->∀j,j<k+1->∀c,s.data.toList[j]?=Vv c->kT t c=b\/kT t c=VR):=aa fun b hb j hj c QO=>by
   by_cases hjk:j=k
   ·subst hjk;rw[hc.o]at QO;cases QO
    exact .inl hb
   exact .inr (hall.o j WQ c QO)
  have HF:Hid (kT t s[k]=VN->wS t s=VN):=aa fun hf=>by
   rw[wS,ap8];exact⟨_,ct hc.o,by simp[hf]⟩
  have HI:Hid (kT t s[k]=(V7 (s[k].toNat<128)&&Ei t s[k].toNat)):=aa lX;clear hc;go_upto_region 5 with(fail);generalize a7:kT t s[k]=ib at *;generalize a8:s[k].toNat=c at *;replace a7:=aa a7;replace a8:=aa a8;by_cases h128:(c:Int)<128
  ·by_cases h64:(c:Int)<64
   ·skip;have hq:(c:Int)/64=0:=by omega
    have a5:ib=!(bits BinOp.and IntKind.u64 (t.1/2 ^ (c%64)) 1==0):=by
     rw[HI.o];simp[Ei,show c<128 by omega,show c<64 by omega]
    have nw:=aa a5;clear a5;cases aE9:(bits BinOp.and IntKind.u64 (t.1/2 ^ (c%64)) 1==0)with
    |true =>
     go_wp2;go_ret;refine⟨ah (HF.o ?_).symm,HB.o⟩;rw[nw.o,aE9];rfl
    |false =>
     go_wp2;go_round
     case rel =>
      refine⟨k+1,WQ,Zf,fun j hj c hc=>(HU.o _ lX j hj c hc).elim (fun h=>?_) id⟩;rw[h,nw.o,aE9];rfl
     simp[intOf];omega
   skip;have hq:(c:Int)/64=1:=by omega
   have a5:ib=!(bits BinOp.and IntKind.u64 (t.2/2 ^ (c%64)) 1==0):=by
    rw[HI.o];simp[Ei,show c<128 by omega,show ¬c<64 by omega]
   have nw:=aa a5;clear a5;cases aE9:(bits BinOp.and IntKind.u64 (t.2/2 ^ (c%64)) 1==0)with
   |true =>
    go_wp2;go_ret;refine⟨ah (HF.o ?_).symm,HB.o⟩;rw[nw.o,aE9];rfl
   |false =>
    go_wp2;go_round
    case rel =>
     refine⟨k+1,WQ,Zf,fun j hj c hc=>(HU.o _ lX j hj c hc).elim (fun h=>?_) id⟩;rw[h,nw.o,aE9];rfl
    simp[intOf];omega
  go_wp2;go_ret;refine⟨ah (HF.o ?_).symm,HB.o⟩;rw[HI.o];simp[show ¬c<128 by omega]
 obtain rfl:k=s.size:=by omega
 go_wp2;go_ret;refine⟨ah (Eq.symm ?_),HB.o⟩;rw[wS,eL];intro c hc;obtain⟨j,hj⟩:=fc hc;exact hall.o j TeE c hj
open Go.Shelf
variable {s:H6}{w w':H7}{l x:wy UInt8}
def vF:H5:=setS [95,46,43,45]
def zB:H5:=setS [95,46,43,45,47,61,58]
def lI(s:H6):UInt8:=s.data.toList.headD 0
def qA(s:H6):Bool:=V7 (0<s.size)&&V7 (s.size<=40)&&!((lI s).toNat==45)&&!((lI s).toNat==46)&&wS vF s
def mr(s:H6):Bool:=V7 (0<s.size)&&V7 (s.size<=24)&&!((lI s).toNat==45)&&wS zB s
def Tcf(h:gt:=by
 obtain⟨⟨l⟩⟩:=s
 cases l with
 |nil=>exact absurd h (by simp[ByteArray.size])
 |cons a l=>rfl):=h
def wH(s:H6)(h:0<s.size):s[0]=lI s:=by
 exact Tcf
def oI(h:¬0<s.size):s=⟨#[]⟩:=by
 obtain⟨⟨l⟩⟩:=s;cases l with
 |nil=>rfl
 |cons a l=>exact absurd (by simp[ByteArray.size]) h
def lS(h:0<s.size):s.toList.isEmpty=VN:=by
 rw[A6];exact Tcf
def TbU(h:gt:=by
 rintro e w2 ⟨rfl,hb2⟩;have cm:=YS cU hb2;clear hb2;go_wp2;go_ret;exact⟨ah (by rw[HN.o];rfl),cm.o⟩):=h
def Tcq(h:gt:=by
 have h1:(s[0].toNat:Int)=45:=by assumption
 go_ret;exact⟨ah (by rw[HN.o,h1];rfl),bj _ _⟩):=h
def Du(s:H6)(hs:s.size<=9223372036854775807):Calls prog 118 #[By s] w fun e w'=>e=S6 (Ft (qA s))/\Below w.1.size w w':=by
 have a7:=aa (fun w=>qy ⟨#[95,46,43,45]⟩ w YR YR);by_cases h0:0<s.size
 ·have he:=lS h0;have HH:=aa (wH s h0);by_cases h40:s.size<=40
  ·have HN:Hid (qA s=(!((s[0].toNat:Int)==45)&&!((s[0].toNat:Int)==46)&&wS vF s)):=aa (by
    rw[HH.o];simp[qA,h0,h40,Bool.and_assoc];rw[show(((lI s).toNat:Int)==45)=((lI s).toNat==45) from by rw[mN];simp;omega,show(((lI s).toNat:Int)==46)=((lI s).toNat==46) from by rw[mN];simp;omega])
   go_enter func118,ntmps118
   go_wp2_with fail
   ·exact Tcq
   ·have h1:(s[0].toNat:Int)=46:=by assumption
    go_ret;exact⟨ah (by rw[HN.o,h1];rfl),bj _ _⟩
   refine(a7.o _).mono ?_;rintro e w1 ⟨rfl,a5⟩;have cU:=aa a5;clear a5;go_wp2_with fail;refine(zP vF s hs).mono ?_;exact TbU
  have HN:Hid (qA s=VN):=aa (by simp[qA,h40]);go_enter func118,ntmps118;go_wp2;go_ret;exact⟨ah HN.o.symm,bj _ _⟩
 obtain rfl:=oI h0;go_enter func118,ntmps118;go_wp2;go_ret;exact⟨rfl,bj _ _⟩
def Af(s:H6)(w:H7)(hs:s.size<=9223372036854775807):Calls prog 119 #[By s] w fun e w'=>e=S6 (Ft (mr s))/\Below w.1.size w w':=by
 have a7:=aa (fun w=>qy ⟨#[95,46,43,45,47,61,58]⟩ w YR YR);by_cases h0:0<s.size
 ·have he:=lS h0;have HH:=aa (wH s h0);by_cases h40:s.size<=24
  ·have HN:Hid (mr s=(!((s[0].toNat:Int)==45)&&wS zB s)):=aa (by
    rw[HH.o];simp[mr,h0,h40,Bool.and_assoc];rw[show(((lI s).toNat:Int)==45)=((lI s).toNat==45) from by rw[mN];simp;omega])
   go_enter func119,ntmps119
   go_wp2_with fail
   ·exact Tcq
   refine(a7.o _).mono ?_;rintro e w1 ⟨rfl,a5⟩;have cU:=aa a5;clear a5;go_wp2_with fail;refine(zP zB s hs).mono ?_;exact TbU
  have HN:Hid (mr s=VN):=aa (by simp[mr,h40]);go_enter func119,ntmps119;go_wp2;go_ret;exact⟨ah HN.o.symm,bj _ _⟩
 obtain rfl:=oI h0;go_enter func119,ntmps119;go_wp2;go_ret;exact⟨rfl,bj _ _⟩
def nV:wy (wy UInt8):=[[95,108,111,103],[95,100,97,116,97],[95,109,101,116,97],[95,115,112,97,114,101]]
def xg:wy UInt8:=[95,108,101,103]
def jr(l:wy UInt8):Option (wy UInt8) :=
 match nV.find? (fun p=>DH l p)with
 |some p=>Vv (l.take (l.length-p.length))
 |none=>if 0<l.length/\48<=(l.getLastD 0).toNat/\(l.getLastD 0).toNat<=55/\DH l.dropLast xg=VR then Vv (l.dropLast.take (l.dropLast.length-4)) else VX
def AW(w:H7):Prop:=0<w.1.size/\∀(i:Nat) (l:wy UInt8),([] :: nV)[i]?=Vv l->w.cell? (0,i)=Vv (By ⟨l.toArray⟩)
def AW.below(h:AW w)(hb:Below w.1.size w w'):AW w':=⟨cC h.1 hb.size,fun i l hl=>(Sc hb h.1).trans (h.2 i l hl)⟩
def AW.mod(h:AW w)(hb:cR F w w')(hF:¬F 0):AW w':=⟨cC h.1 hb.size,fun i l hl=>(hb.cell (p:=⟨0,i,VX⟩) h.1 hF).trans (h.2 i l hl)⟩
def Ep(s:H6)(w:H7)(e:Ending)(w':H7):Prop:=∃r:wy UInt8,e=S6 (Vj #[By ⟨r.toArray⟩,Ft (jr s.data.toList).isSome])/\(∀x,jr s.data.toList=Vv x->r=x)/\w=w'
def Es(s:H6)(h:0<s.size):s[s.size-1]'WQ=s.data.toList.getLastD 0:=by
 obtain⟨⟨l⟩⟩:=s;show l[l.length-1]'(by show l.length-1<l.length;have:0<l.length:=h;omega)=_;rw[List.getLastD_eq_getLast?,List.getLast?_eq_getElem?,lO];rfl
def TbP(h:gt:=by
 go_ret2;have hn:=HNo.o (by rw[<- HL.o];omega);refine(show Ep s w _ w from⟨s.data.toList,by rw[hn];rfl,(fun x hx=>by rw[hn]at hx;cases hx),rfl⟩)):=h
def Ac(s:H6)(hs:s.size<=9223372036854775807)(hS:AW w):Calls prog 117 #[By s] w (Ep s w):=by
 replace hS:=aa hS;go_enter func117,ntmps117;go_wp2
 go_loop[11] (fun i=>∃k:Nat,k<=4/\i=Bm Sj k/\(∀j p,j<k->nV[j]?=Vv p->DH s.data.toList p=VN)) (fun i=>4-(intOf i).toNat)
 exact⟨0,cg _,rfl,fun j p hj=>by omega⟩;obtain⟨k,hk,rfl,hno⟩:=hrel;replace hno:=aa hno;by_cases hlt:k<4
 ·obtain⟨p,hp⟩:=aj nV k hlt;have hc:w.cell? (0,1+k)=Vv (By ⟨p.toArray⟩):=hS.o.2 (1+k) p (by rw[Nat.add_comm,List.getElem?_cons_succ];exact hp);replace hp:=aa hp;go_wp2_with fail;refine(Any.strings_CutSuffix Tryz.lays104 s ⟨p.toArray⟩ _ hs).mono ?_;rintro e w' ⟨rfl,rfl⟩;cases hsf:DH s.data.toList (⟨p.toArray⟩:H6).data.toList with
  |true =>
   go_wp2;go_ret2;have hf:jr s.data.toList=Vv (s.data.toList.take (s.data.toList.length-p.length)):=by
    have:nV.find? (fun p=>DH s.data.toList p)=Vv p:=by
     rw[List.find?_eq_some_iff_getElem];obtain⟨hk4,ZU⟩:=AT.1 hp.o;refine⟨hsf,k,hk4,ZU,fun j hj=>?_⟩;rw[hno.o j _ hj (lO WQ)];rfl
    simp only[jr,this]
   refine⟨s.data.toList.take (s.data.toList.length-p.length),?_,fun x hx=>?_,rfl⟩
   ·rw[hf];have:Lib.trimSuffix s.data.toList p=s.data.toList.take (s.data.toList.length-p.length):=by
     unfold Lib.trimSuffix;rw[aw hsf]
    rw[<- this];rfl
   rw[hf]at hx;exact gj hx
  |false =>
   go_wp2;go_round
   case rel =>
    refine⟨k+1,WQ,Zf,fun j q hj hq=>?_⟩;by_cases hjk:j=k
    ·subst hjk;rw[hp.o]at hq;cases hq
     exact hsf
    exact hno.o j q WQ hq
   simp[intOf];omega
 obtain rfl:k=4:=by omega
 have HN:Hid (nV.find? (fun p=>DH s.data.toList p)=VX):=aa (by
  rw[List.find?_eq_none];intro p hp;obtain⟨j,hj⟩:=fc hp;rw[hno.o j p (AT.1 hj).1 hj];simp)
 by_cases h0:0<s.size
 ·have HL:=aa (Es s h0);have a7:∀(_:¬(48<=(s.data.toList.getLastD 0).toNat/\(s.data.toList.getLastD 0).toNat<=55)),jr s.data.toList=VX:=fun h=>by
   simp only[jr,HN.o];rw[bh (fun q=>h ⟨q.2.1,q.2.2.1⟩)]
  have HNo:=aa a7;clear a7;go_wp2_with fail
  ·have hq:(((s[s.size-1].toNat:Int))<48)\/55<(s[s.size-1].toNat:Int):=by
    have:((s.size:Int)-1<0\/(s[s.size-1].toNat:Int)<48)\/55<(s[s.size-1].toNat:Int):=by assumption
    omega
   exact TbP
  ·have hq:((0:Int)<=(s.size:Int)-1/\48<=(s[s.size-1].toNat:Int))/\(s[s.size-1].toNat:Int)<=55:=by assumption
   have a5:48<=(s.data.toList.getLastD 0).toNat/\(s.data.toList.getLastD 0).toNat<=55:=by rw[<- HL.o];omega
   clear hq;replace a5:=aa a5;refine(Any.strings_CutSuffix Tryz.lays104 _ _ _ ZY).mono ?_;rintro e w' ⟨rfl,rfl⟩;go_wp2;go_ret2;cases hsf:DH s.data.toList.dropLast xg with
   |true =>
    have hf:jr s.data.toList=Vv (s.data.toList.dropLast.take (s.data.toList.dropLast.length-4)):=by
     simp only[jr,HN.o];rw[aw ⟨TdW,a5.o.1,a5.o.2,hsf⟩]
    refine⟨s.data.toList.dropLast.take (s.data.toList.dropLast.length-4),?_,fun x hx=>?_,rfl⟩
    ·rw[hf];have:Lib.trimSuffix s.data.toList.dropLast xg=s.data.toList.dropLast.take (s.data.toList.dropLast.length-4):=by
      unfold Lib.trimSuffix;rw[aw hsf];rfl
     rw[<- this];show Ending.returned (Vj #[_,Ft (DH _ xg)])=_;rw[hsf];rfl
    rw[hf]at hx;exact gj hx
   |false =>
    have hf:jr s.data.toList=VX:=by
     simp only[jr,HN.o];rw[bh (fun q=>by rw[hsf]at q;exact absurd q.2.2.2 XN)]
    refine⟨Lib.trimSuffix s.data.toList.dropLast xg,?_,(fun x hx=>by rw[hf]at hx;cases hx),rfl⟩;rw[hf];show Ending.returned (Vj #[_,Ft (DH _ xg)])=_;rw[hsf];rfl
  have hq:(s[s.size-1].toNat:Int)<48:=by assumption
  exact TbP
 obtain rfl:=oI h0;go_wp2;go_ret2;exact(show Ep ⟨#[]⟩ w _ w from⟨[],rfl,(fun x hx=>by cases hx),rfl⟩)
def jo(s:H6):Bool:=qA s&&V7 (s.size<=24)&&!(jr s.data.toList).isSome
def Tbh(h:gt:=by
 cases hn:qA s with
 |false =>
  go_wp2;go_ret;exact⟨ah (by simp[jo,hn]),cU.o⟩
 |true =>
  by_cases h24:s.size<=24
  ·cases hc:(jr s.data.toList).isSome with
   |false =>
    go_wp2;go_ret;exact⟨ah (by simp[jo,hn,h24,hc]),cU.o⟩
   |true =>
    go_wp2;go_ret;exact⟨ah (by simp[jo,hn,h24,hc]),cU.o⟩
  go_wp2;go_ret;exact⟨ah (by simp[jo,hn,h24]),cU.o⟩):=h
def fT(s:H6)(w:H7)(hs:s.size<=9223372036854775807)(hS:AW w):Calls prog 61 #[By s] w fun e w'=>e=S6 (Ft (jo s))/\Below w.1.size w w':=by
 replace hS:=aa hS;go_enter func61,ntmps61
 go_wp2_with fail;refine(Ac s hs hS.o).mono ?_;rintro e w' ⟨r,rfl,_,rfl⟩;go_wp2_with fail;refine(Du s hs).mono ?_;rintro e w1 ⟨rfl,a5⟩;have cU:=aa a5;clear a5;exact Tbh
def pU(h:jr l=Vv x):x.length<l.length:=by
 unfold jr at h;cases hf:nV.find? (fun p=>DH l p)with
 |some p =>
  rw[hf]at h;obtain rfl:=gj h;have hp:=eV hf;have hs:=List.find?_some hf;have h1:p.length<=l.length:=(OK.1 hs).length_le;have h2:0<p.length:=by
   simp only[nV,dr,cY,dg]at hp;rcases hp with rfl|rfl|rfl|rfl<;>simp
  rw[ey];omega
 |none =>
  rw[hf]at h;by_cases c:0<l.length/\48<=(l.getLastD 0).toNat/\(l.getLastD 0).toNat<=55/\DH l.dropLast xg=VR
  ·simp only[aw c]at h;obtain rfl:=gj h;rw[ey,List.length_dropLast];omega
  simp only[bh c]at h
  cases h
def lK:Nat->wy UInt8->wy UInt8 × Nat
 |0,l=>(l,0)
 |f+1,l=>match jr l with
  |none=>(l,0)
  |some x=>((lK f x).1,(lK f x).2+1)
def gu(l:wy UInt8):wy UInt8 × Nat:=lK l.length l
def mG:∀(f:Nat) (l:wy UInt8),l.length<=f->lK f l=lK l.length l
 |0,l,h=>by rw[show l.length=0 by omega]
 |f+1,l,h=>by
  cases hl:l.length with
  |zero =>
   have:l=[]:=fX hl;subst this;rfl
  |succ n =>
   unfold lK;cases hc:jr l with
   |none=>rfl
   |some x =>
    have:=pU hc;simp only[];rw[mG f x WQ,mG n x WQ]
def yc(h:jr l=VX):gu l=(l,0):=by
 unfold gu;cases hl:l.length with
 |zero=>rfl
 |succ n=>simp only[lK,h]
def zI(h:jr l=Vv x):gu l=((gu x).1,(gu x).2+1):=by
 have hx:=pU h;unfold gu;cases hl:l.length with
 |zero=>omega
 |succ n =>
  simp only[lK,h];rw[mG n x WQ]
def Cy(l:wy UInt8)(w:H7)(hs:l.length<=9223372036854775807)(hS:AW w):Calls prog 122 #[By ⟨l.toArray⟩] w fun e w'=>e=S6 (Vj #[By ⟨(gu l).1.toArray⟩,Bm Sj (gu l).2])/\w=w':=by
 replace hS:=aa hS;go_enter func122,ntmps122;go_wp2
 go_loop[0,4] (fun s n=>∃(r:wy UInt8) (k:Nat),s=By ⟨r.toArray⟩/\n=Bm Sj k/\r.length+k<=l.length/\(gu l).1=(gu r).1/\(gu l).2=(gu r).2+k) (fun s _=>match s with|.string x=>x.size|_=>0)
 exact⟨l,0,rfl,rfl,WQ,rfl,rfl⟩;obtain⟨r,k,rfl,rfl,a5,h1,h2⟩:=hrel;replace h1:=aa h1;replace h2:=aa h2;go_wp2_with fail;refine(Ac ⟨r.toArray⟩ (by show r.length<=_;omega) hS.o).mono ?_;rintro e w' ⟨x,rfl,hx,rfl⟩;replace hx:=aa hx;cases hc:jr (⟨r.toArray⟩:H6).data.toList with
 |none =>
  go_wp2;go_ret2;have:=yc (l:=r) hc;exact⟨by rw[h1.o,h2.o,this];simp,rfl⟩
 |some y =>
  obtain rfl:=hx.o y hc;have hlt:=pU (l:=r) hc;have HC:=aa (show jr r=Vv x from hc);go_wp2;go_round
  case rel =>
   have:=zI HC.o;exact⟨x,k+1,rfl,Zf,WQ,by rw[h1.o,this],by rw[h2.o,this];omega⟩
  simp[ByteArray.size];omega
def zH(s:H6):Bool:=V7 (0<(gu s.data.toList).2)&&V7 (s.size<=40)&&jo ⟨(gu s.data.toList).1.toArray⟩
def bytes_eta(s:H6):s=⟨s.data.toList.toArray⟩:=by
 obtain⟨⟨l⟩⟩:=s;rfl
def uB:∀(f:Nat) (l:wy UInt8),(lK f l).1.length<=l.length
 |0,l=>bk _
 |f+1,l=>by
  unfold lK;cases hc:jr l with
  |none=>exact bk _
  |some x=>exact cA (uB f x) (Nat.le_of_lt (pU hc))
def Td8(h:gt:=by simpa using hs):=h
def qO(s:H6)(w:H7)(hs:s.size<=9223372036854775807)(hS:AW w):Calls prog 67 #[By s] w fun e w'=>e=S6 (Ft (zH s))/\Below w.1.size w w':=by
 replace hS:=aa hS;have On:(gu s.data.toList).1.length<=9223372036854775807:=cA (uB _ _) Td8;have pL:=aa (Cy s.data.toList w Td8 hS.o);rw[<- bytes_eta]at pL;go_enter func67,ntmps67
 go_wp2_with fail;refine pL.o.mono ?_;clear pL;rintro e w' ⟨rfl,rfl⟩;have HH:Hid (zH s=(V7 (0<(gu s.data.toList).2)&&V7 (s.size<=40)&&jo ⟨(gu s.data.toList).1.toArray⟩)):=aa lX;generalize hb:(gu s.data.toList).1=b at *;generalize hk:(gu s.data.toList).2=k at *;clear hb hk;by_cases h0:0<k
 ·by_cases h40:s.size<=40
  ·go_wp2_with fail;refine(fT ⟨b.toArray⟩ _ On hS.o).mono ?_;rintro e w1 ⟨rfl,a5⟩;replace a5:=aa a5;go_wp2;go_ret;exact⟨ah (by rw[HH.o];simp[h0,h40]),a5.o⟩
  go_wp2;go_ret;exact⟨ah (by rw[HH.o];simp[h40]),bj _ _⟩
 go_wp2;go_ret;exact⟨ah (by rw[HH.o];simp[h0]),bj _ _⟩
def sQ(a b:wy UInt8):(⟨a.toArray⟩:H6)++(⟨b.toArray⟩:H6)=⟨(a++b).toArray⟩:=by
 apply ByteArray.ext;simp
def iK(l vd:wy UInt8):wy UInt8 × Int :=
 if jo ⟨l.toArray⟩=VN/\zH ⟨l.toArray⟩=VN then([],10) else if vd=[] then([],1) else if 40<l.length+vd.length then([],4) else(l++vd,0)
def TeZ(h:gt:=by rw[HX.o];exact fj (fun b=>Ending.returned (Vj #[By b,Bm Sj 0])) (sQ l vd)):=h
def TdD(h:gt:=by rw[HX.o];rfl):=h
def Tdm(h:gt:=by rw[HR.o];rfl):=h
def dR(l vd:wy UInt8)(hs:l.length<=1000000000)(hs2:vd.length<=100)(hS:AW w):Calls prog 163 #[By ⟨l.toArray⟩,By ⟨vd.toArray⟩] w fun e w'=>e=S6 (Vj #[By ⟨(iK l vd).1.toArray⟩,Bm Sj (iK l vd).2])/\Below w.1.size w w':=by
 replace hS:=aa hS;have hz:(⟨l.toArray⟩:H6).size=l.length:=rfl;have RC:(⟨vd.toArray⟩:H6).size=vd.length:=rfl;have HW:=aa (iK.eq_1 l vd);go_enter func163,ntmps163
 go_wp2_with fail;refine(fT ⟨l.toArray⟩ _ WQ hS.o).mono ?_;rintro e w1 ⟨rfl,a5⟩;have a7:=aa (hS.o.below a5);replace a5:=aa a5;have rest:∀w2:H7,Below w.1.size w w2->(jo ⟨l.toArray⟩=VR\/zH ⟨l.toArray⟩=VR)->iK l vd=if vd=[] then([],1) else if 40<l.length+vd.length then([],4) else(l++vd,0):=fun w2 _ h=>by
  rw[HW.o,bh];rintro⟨a,b⟩;rcases h with h|h
  ·rw[a]at h;cases h
  rw[b]at h;cases h
 cases hv:jo ⟨l.toArray⟩with
 |true =>
  have HR:=aa (rest w (bj _ _) (.inl hv));clear rest HW;by_cases ao2:vd=[]
  ·subst ao2;go_wp2;go_ret2;exact⟨Tdm,a5.o⟩
  have a8:vd.isEmpty=VN:=by simpa using ao2
  by_cases h40:40<l.length+vd.length
  ·have HX:Hid (iK l vd=([],4)):=aa (by rw[HR.o,bh ao2,aw h40]);go_wp2;go_ret2;exact⟨TdD,a5.o⟩
  have HX:Hid (iK l vd=(l++vd,0)):=aa (by rw[HR.o,bh ao2,bh h40]);go_wp2;go_ret2;exact⟨TeZ,a5.o⟩
 |false =>
  go_wp2_with fail;refine(qO ⟨l.toArray⟩ _ WQ a7.o).mono ?_;rintro e w2 ⟨rfl,hb2⟩;have cm:=YS a5 hb2;clear hb2;cases hh:zH ⟨l.toArray⟩with
  |true =>
   have HR:=aa (rest w (bj _ _) (.inr hh));clear rest HW;by_cases ao2:vd=[]
   ·subst ao2;go_wp2;go_ret2;exact⟨Tdm,cm.o⟩
   have a8:vd.isEmpty=VN:=by simpa using ao2
   by_cases h40:40<l.length+vd.length
   ·have HX:Hid (iK l vd=([],4)):=aa (by rw[HR.o,bh ao2,aw h40]);go_wp2;go_ret2;exact⟨TdD,cm.o⟩
   have HX:Hid (iK l vd=(l++vd,0)):=aa (by rw[HR.o,bh ao2,bh h40]);go_wp2;go_ret2;exact⟨TeZ,cm.o⟩
  |false =>
   have HX:Hid (iK l vd=([],10)):=aa (by rw[HW.o,aw ⟨hv,hh⟩]);clear rest HW;go_wp2;go_ret2;exact⟨TdD,cm.o⟩
def jb(k:Int):wy UInt8:=if 0<=k/\k<=7 then xg++[UInt8.ofNat (48+k.toNat)] else []
def dH(k:Int):wy UInt8:=if 1<=k/\k<=4 then nV.getD (k.toNat-1) [] else []
def Tc3(h:gt:=by
 rintro e w1 ⟨rfl,hb1⟩;have cU:=aa hb1;clear hb1;go_wp2;go_ret2;exact⟨rfl,cU.o⟩):=h
def TbQ(h:gt:=by
 go_wp2_with fail;refine(dR l [] hs XN HS.o).mono ?_;exact Tc3):=h
def TcC(h:gt:=by
 exact Tc3):=h
def wC(l:wy UInt8)(k:Int)(w:H7)(hs:l.length<=1000000000)(hS:AW w):Calls prog 130 #[By ⟨l.toArray⟩,Bm Sj k] w fun e w'=>e=S6 (Vj #[By ⟨(iK l (dH k)).1.toArray⟩,Bm Sj (iK l (dH k)).2])/\Below w.1.size w w':=by
 have HS:=aa hS;clear hS;by_cases h1:1<=k/\k<=4
 ·obtain⟨i,hi⟩:∃i:Nat,k=((i+1:Nat):Int):=⟨k.toNat-1,WQ⟩
  subst hi;obtain⟨p,hp⟩:=aj nV i (by show i<4;omega);have hc:w.cell? (0,i+1)=Vv (By ⟨p.toArray⟩):=HS.o.2 (i+1) p (by rw[List.getElem?_cons_succ];exact hp);have CH:dH ((i+1:Nat):Int)=p:=by
   unfold dH;rw[aw h1];simp[hp]
  rw[CH];have a5:p.length<=100:=by
   have:=ct hp;simp only[nV,dr,cY,dg]at this;rcases this with rfl|rfl|rfl|rfl<;>simp
  clear CH hp;have a7:i<4:=by omega
  go_enter func130,ntmps130
  go_wp2_with fail;refine(dR l p hs a5 HS.o).mono ?_;exact TcC
 have CH:dH k=[]:=by unfold dH;rw[bh h1]
 rw[CH];clear CH;go_enter func130,ntmps130
 by_cases h2:0<=k-1
 ·have h3:¬k<=4:=by omega
  have h4:1<=k:=by omega
  exact TbQ
 have h4:¬1<=k:=by omega
 exact TbQ
def Ea(l:wy UInt8)(k:Int)(w:H7)(hs:l.length<=1000000000)(hS:AW w):Calls prog 129 #[By ⟨l.toArray⟩,Bm Sj k] w fun e w'=>e=S6 (Vj #[By ⟨(iK l (jb k)).1.toArray⟩,Bm Sj (iK l (jb k)).2])/\Below w.1.size w w':=by
 have HS:=aa hS;clear hS;by_cases h1:0<=k/\k<=7
 ·have h2:k=0\/k=1\/k=2\/k=3\/k=4\/k=5\/k=6\/k=7:=by omega
  go_enter func129,ntmps129;clear h1;rcases h2 with rfl|rfl|rfl|rfl|rfl|rfl|rfl|rfl
  ·have E:(⟨#[95,108,101,103]⟩:H6)++Utf8.encode 48=⟨(jb 0).toArray⟩:=by kernel_rfl
   have hl:(jb 0).length<=100:=by decide
   go_wp2_with fail;refine(dR l (jb 0) hs hl HS.o).mono ?_;exact TcC
  ·have E:(⟨#[95,108,101,103]⟩:H6)++Utf8.encode 49=⟨(jb 1).toArray⟩:=by kernel_rfl
   have hl:(jb 1).length<=100:=by decide
   go_wp2_with fail;refine(dR l (jb 1) hs hl HS.o).mono ?_;exact TcC
  ·have E:(⟨#[95,108,101,103]⟩:H6)++Utf8.encode 50=⟨(jb 2).toArray⟩:=by kernel_rfl
   have hl:(jb 2).length<=100:=by decide
   go_wp2_with fail;refine(dR l (jb 2) hs hl HS.o).mono ?_;exact TcC
  ·have E:(⟨#[95,108,101,103]⟩:H6)++Utf8.encode 51=⟨(jb 3).toArray⟩:=by kernel_rfl
   have hl:(jb 3).length<=100:=by decide
   go_wp2_with fail;refine(dR l (jb 3) hs hl HS.o).mono ?_;exact TcC
  ·have E:(⟨#[95,108,101,103]⟩:H6)++Utf8.encode 52=⟨(jb 4).toArray⟩:=by kernel_rfl
   have hl:(jb 4).length<=100:=by decide
   go_wp2_with fail;refine(dR l (jb 4) hs hl HS.o).mono ?_;exact TcC
  ·have E:(⟨#[95,108,101,103]⟩:H6)++Utf8.encode 53=⟨(jb 5).toArray⟩:=by kernel_rfl
   have hl:(jb 5).length<=100:=by decide
   go_wp2_with fail;refine(dR l (jb 5) hs hl HS.o).mono ?_;exact TcC
  ·have E:(⟨#[95,108,101,103]⟩:H6)++Utf8.encode 54=⟨(jb 6).toArray⟩:=by kernel_rfl
   have hl:(jb 6).length<=100:=by decide
   go_wp2_with fail;refine(dR l (jb 6) hs hl HS.o).mono ?_;exact TcC
  have E:(⟨#[95,108,101,103]⟩:H6)++Utf8.encode 55=⟨(jb 7).toArray⟩:=by kernel_rfl
  have hl:(jb 7).length<=100:=by decide
  go_wp2_with fail;refine(dR l (jb 7) hs hl HS.o).mono ?_;exact TcC
 have CH:jb k=[]:=by unfold jb;rw[bh h1]
 rw[CH];clear CH;go_enter func129,ntmps129
 by_cases h2:0<=k
 ·have h3:¬k<=7:=by omega
  exact TbQ
 exact TbQ
open Go Go.Maps Go.MapKept Go.ChangeMaps
def FJ(v:zY):Option (DataW zY × wy MemPlace):=Vv (.held v,[])
def zK:Option zY->DataW zY
 |some v=>.held v
 |none=>.nil
def oQ(h:zK o=.held v):o=Vv v:=by
 cases o with
 |none=>cases h
 |some u=>cases h;rfl
def oP(h:zK o=.nil):o=VX:=by
 cases o with
 |none=>rfl
 |some u=>cases h
def bi(P:Program)(k:TypeId)(w:H7)(b n:Nat)(f:zY->Option zY):Prop :=
 ∃D:DataW zY,w.ownsMap P k FJ b n D/\∀key kl,keyOf P k key=Vv kl->D.atKey kl .nil=zK (f key)
open Classical in
noncomputable def upd(f:zY->Option zY)(key v:zY):zY->Option zY:=fun x=>if x=key then Vv v else f x
def upd_same(f:zY->Option zY)(key v:zY):upd f key v key=Vv v:=by simp[upd]
def bP{key x:zY}(h:x≠key):upd f key v x=f x:=by simp[upd,h]
variable {P:Program}{k:TypeId}{w w':H7}{b n:Nat}{f:zY->Option zY}
variable {g:Nat}{t e:TypeId}{key:zY}{kl:Lit}
def bi.made(P:Program)(k:TypeId)(w:H7):bi P k (w.alloc (.map #[] 0)) w.1.size 0 (fun _=>VX) :=
 ⟨.map [],World.ownsMap_made w P k FJ,fun _ _ _=>rfl⟩
def bi.lt(h:bi P k w b n f):b<w.1.size:=by
 obtain⟨D,h,_⟩:=h;exact h.lt
def bi.mono{m:Nat}(h:bi P k w b n f)(hm:n<=m):bi P k w b m f:=by
 obtain⟨D,h,hf⟩:=h;exact⟨D,h.mono hm,hf⟩
def bi.block(h:bi P k w b n f)(hb:w'.1[b]?=w.1[b]?):bi P k w' b n f:=by
 obtain⟨D,⟨es,a5,h1,h2⟩,hf⟩:=h;exact⟨D,⟨es,a5,hb.trans h1,h2⟩,hf⟩
def bi.congr{g:zY->Option zY}(h:bi P k w b n f)(hg:∀key kl,keyOf P k key=Vv kl->g key=f key):bi P k w b n g:=by
 obtain⟨D,h,hf⟩:=h;exact⟨D,h,fun key kl hk=>by rw[hg key kl hk];exact hf key kl hk⟩
def bi.ne(h:bi P k w b n f){cs:Array zY}{z:Nat × Nat}(hg:w.1[g]?=Vv (Sx cs t z)):b≠g:=by
 obtain⟨D,⟨es,a5,h1,_⟩,_⟩:=h;rintro rfl;rw[h1]at hg;cases hg
def bi.look(h:bi P k w b n f)(K:Keyed P k)(ht:P.underlying t=Vv (.map k e))(hz:(zeroValue e).run P w=.ok z w)(a8:keyOf P k key=Vv kl) :
  (Instr.lookup t (.map (Vv b)) key VN).run P w=.ok ((f key).getD z) w/\(Instr.lookup t (.map (Vv b)) key VR).run P w=.ok (Vj #[(f key).getD z,.bool (f key).isSome]) w:=by
 obtain⟨D,⟨es,aa,hb,F,_,rfl⟩,hf⟩:=h;have a7:=hf key kl a8;constructor
 ·rcases Maps.fit_look VN K ht hz hb F a8 with⟨a5,_,hat⟩|⟨e0,y,_,_,a5,a9,hat,_⟩
  ·rw[hat]at a7;rw[oP a7.symm];exact a5
  rw[hat]at a7
  cases a9
  rw[oQ a7.symm];exact a5
 rcases Maps.fit_look VR K ht hz hb F a8 with⟨a5,_,hat⟩|⟨e0,y,_,_,a5,a9,hat,_⟩
 ·rw[hat]at a7;rw[oP a7.symm];exact a5
 rw[hat]at a7
 cases a9
 rw[oQ a7.symm];exact a5
def bi.store(h:bi P k w b n f)(K:Keyed P k)(ht:P.underlying t=Vv (.map k e))(hn:n<maxLen)(a5:keyOf P k key=Vv kl)(v:zY) :
  ∃w',(Instr.mapUpdate t (.map (Vv b)) key v).run P w=.ok () w'/\bi P k w' b (n+1) (upd f key v)/\w.grownBy w' (Vv b)/\w'.1.size=w.1.size:=by
 obtain⟨D,h,hf⟩:=h;have hm:=h.isMap;obtain⟨w',a7,h1,h2⟩:=h.store (d:=.held v) (ps:=[]) K ht hn a5 lX;refine⟨w',a7,⟨_,h1,fun x kx hx=>?_⟩,h2.grown,?_⟩
 ·by_cases hxk:x=key
  ·subst hxk;rw[a5]at hx;cases hx
   rw[upd_same,Maps.atKey_put_same hm (K.key a5)];rfl
  rw[bP hxk,Maps.atKey_put_other (fun e=>hxk (K.inj hx (by rw[e];exact a5))),hf x kx hx]
 obtain⟨es,c,a8,c',_,rfl⟩:=h2;simp[setBlock]
def oJ(h:w.grownBy w' (Vv row))(hg:g<w.1.size)(hne:g≠row):w'.1[g]?=w.1[g]?:=h.block g hg (fun e=>hne (by injection e))
end
section
open Go.RowKit Go.Maps
variable {w w':H7}{B bc:Nat}{v:zY}{l:QN}{g:af}{s:aB}
structure eX where
 least:Int
 greatest:Int
 F9:Bool
 several:Bool
 chunk:Int
 stale:Bool
 pool:Bool
 log:Bool
 mode:Bool
 done:Bool
def shapeOf(k:Int):Option eX :=
 if k=1 then Vv ⟨1,1,VN,VR,0,VN,VN,VN,VN,VN⟩
 else if k=2 then Vv ⟨2,6,VN,VR,1,VN,VN,VN,VN,VN⟩
 else if k=3 then Vv ⟨2,6,VR,VN,1024,VR,VN,VR,VN,VN⟩
 else if k=4 then Vv ⟨3,6,VR,VN,1,VR,VN,VN,VN,VN⟩
 else if k=5 then Vv ⟨2,2,VR,VN,64,VN,VN,VN,VN,VN⟩
 else if k=6 then Vv ⟨0,0,VN,VN,0,VN,VR,VN,VN,VN⟩
 else if k=7 then Vv ⟨3,3,VR,VN,64,VN,VN,VN,VR,VN⟩
 else if k=8 then Vv ⟨2,2,VN,VR,0,VN,VN,VN,VN,VR⟩
 else if k=9 then Vv ⟨0,0,VN,VR,0,VN,VN,VN,VN,VN⟩
 else if k=10 then Vv ⟨0,0,VN,VR,0,VN,VN,VN,VN,VN⟩
 else VX
def yu:eX:=⟨0,0,VN,VN,0,VN,VN,VN,VN,VN⟩
def Tan(x0:eX):Tab #[Bm Sj x0.least,Bm Sj x0.greatest,Ft x0.F9,Ft x0.several,Bm Sj x0.chunk,Ft x0.stale,Ft x0.pool,Ft x0.log,Ft x0.mode,Ft x0.done]:=⟨⟩
def jR(x:eX):zY:=Tk (Tan x)
def eH:zY->Option zY
 |.int Sj k=>(shapeOf k).map jR
 |_=>VX
def eZ(v:ay):Int:=match v.Gf with
 |[s]=>s.kind
 |_=>0
def fF(n l:Int):Int:=min (n+min (max l 0) 1073741824) 1073741824
def C8(v:ay):Int:=v.Gf.foldl (fun n s=>fF n s.length) 0
def fq(ext ch:Int)(x:eX):Bool :=
 if x.chunk=0 then ch==0 else if x.chunk=1 then V7 (1<=ch)&&ext%ch==0 else V7 (1<=ch)&&V7 (ch<=x.chunk)
def bR(st:Bool)(e:Int)(l:PI)(i:Nat):Bool:=st&&V7 (0<=l.getD i 0)&&V7 (l.getD i 0<e)&&(V7 (i=0)||decide (l.getD (i-1) 0<l.getD i 0))
def dP(s:aB)(x:eX):Bool:=(FF (Wq s.stale)).all (bR x.stale (Wq s.Ga+if s.log.toList.isEmpty then 0 else 1) s.stale)
def bE(n lo hi:Int)(used:Bool):Bool:=if used then V7 (lo<=n)&&V7 (n<=hi) else n==0
def bT(x:eX)(a:aR):Bool:=a.vol==x.F9&&(!a.vol||a.start==0)
def bJ(ext:Int)(s:aB)(start:Int):Bool:=match shapeOf s.kind with
 |none=>VN
 |some x=>s.start==start&&V7 (1<=s.length)&&V7 (s.length<=32768)&&V7 (x.least<=Wq s.Ga)&&V7 (Wq s.Ga<=x.greatest)&&s.Ga.all (bT x) &&
   fq ext s.chunk x&&(x.log||s.log.toList.isEmpty)&&(x.pool||s.pool.toList.isEmpty)&&dP s x&&bE s.device 1 65535 x.pool&&bE s.mode 1 2 x.mode&&bE s.done 0 s.length x.done &&
   !(s.kind==2&&!(s.length%Wq s.Ga==0))&&!(s.kind==4&&!(s.length%(Wq s.Ga-1)==0))
def dD(s:aB)(pool:Bool):QN:=((s.Ga.filter (·.vol)).map (·.on))++(if s.log.toList.isEmpty then [] else [s.log])++(if pool&&s.kind==6 then [s.pool] else [])
def dF(w:H7)(B:Nat)(v:zY)(l:QN):Prop:=w.ownsRow B 9 1 v l.length (l.map By)
def dF.nil(w:H7)(B:Nat):dF w B (FG VX 0 0) []:=gS w B _ 1
def dF.blk(h:dF w B v l)(hk:∀k,v.ownBlock=Vv k->w'.1[k]?=w.1[k]?):dF w' B v l:=aC h hk
def dF.below(h:dF w B v l)(hb:Below w.1.size w w'):dF w' B v l:=h.blk fun k e=>hb.block k (fh h k e).2
def dF.rd{ok:LN}(h:dF w B v l)(gw:∀b,v.ownBlock=Vv b->ok b):ck aF 1 ok w [v] l:=by
 obtain⟨h1,h2⟩:=h;rcases h2 with⟨rfl,hn⟩|⟨g,cap,a5,rfl,hb,hg,vr,hcm,a7,ht⟩
 ·exact TcF
 refine⟨Vv ⟨g,0,VX⟩,cap,rfl,vr,Tds,fun _=>⟨g,0,rfl,(F1.1 hg).1,gw g lX,fun i x hx=>⟨[By x],rfl,rfl,fun j z hz=>?_⟩⟩⟩;have a8:i<l.length:=(AT.1 hx).1;have hc:(l.map By)[i]?=Vv (By x):=by simp[hx]
 match j,hz with
 |0,hz =>
  obtain rfl:By x=z:=by simpa using hz
  rw[<- ht,ri WQ]at hc;rw[cell_of_row w g (0+i*1+0) a5 _ (0,0) hg];simpa using hc
def dF.mono(h:dF w B v l)(hB:B'<=B):dF w B' v l:=by
 exact TbS
def dz{rest:wy Oper}{o:Oper}(a8:o.guard=VX)(s x:Operand)
  (ho:o.op=.call { callee:=.builtin .append,args:=#[s,x],argTypes:=#[26,26] })
  (B:Nat) (v:zY) (l:QN) (p:H6) (hs:a.eval s=v) (a5:dF w B v l) (g c:Nat) (hx:a.eval x=FG (Vv g) 1 c)
  (hc:w.cell? g=Vv (By p)) (hl:l.length<=100000000) (hB:B<=w.1.size)
  (h:∀v' w',dF w' B v' (l++[p])->Below B w w'->w.grownBy w' v.ownBlock->wpList prog a7 Q rest (a.put o.dst v') w'):wpList prog a7 Q (o :: rest) a w:=by
 obtain⟨i0,hi,du,R0,RC⟩:=gg CJ;refine tE w a8 s x 26 ho B 9 i0 _ 1 16 underlying26 hi du R0 RC lX YR v l.length (l.map By) hs a5 ⟨g,0,VX⟩ 1 c [By p] hx lX (fun j u hu=>?_) Tdj Tdh WQ hB (fun v' w' a9 hg _=>?_)
 ·rw[iz,eJ]
  match j,hu with
  |0,hu =>
   obtain rfl:By p=u:=by simpa using hu
   exact hc
 refine h v' w' ?_ ((bj B w).grown hg hB (fun k hk=>(fh a5 k hk).1)) hg;unfold dF;rw[gl,cD];exact a9
def Tcw(h:gt:=by
 unfold eZ
 match eE:v.Gf,h1,hs with
 |[x],_,hs =>
  obtain rfl:x=s:=by simpa using hs
  rfl):=h
def Tcn(h:gt:=by
 unfold eZ
 match eE:v.Gf with
 |[x]=>rw[eE]at h1;exact absurd lX h1
 |[]=>rfl
 |_ :: _ :: _=>rfl):=h
def TcM(h:gt:=by
 go_wp2;go_ret;exact⟨rfl,HB.o⟩):=h
def kU{ok:LN}(v:ay)(hv:aN ok w u v)(hl:Wq v.Gf<=1000000000):Calls prog 76 #[Tk u.toArray] w fun e w'=>e=S6 (Bm Sj (eZ v))/\Below w.1.size w w':=by
 obtain⟨tv,sv,rfl,ew,gA⟩:=hv;obtain⟨tp,tc,rfl,_,_⟩:=ew.cap;obtain⟨sp,sc,rfl,a7,a8⟩:=gA.cap;replace gA:=aa gA;have HB:=aa (ae w (Sx (ZM v tp tc sp sc) 46));by_cases h1:Wq v.Gf=1
 ·obtain⟨s,hs⟩:=aj v.Gf 0 WQ;have hk:eZ v=s.kind:=by
   exact Tcw
  obtain⟨b,off,us,rfl,_,cX,ez,eE,a5⟩:=gA.o.elem hs;obtain⟨a,st,rfl,_,_⟩:=eE;have c2:=(Sc HB.o cX).trans (a5 2 _ lX);rw[Nat.zero_mul,fg]at c2;clear a5 ez hs;rw[hk];clear hk;have hq:((Wq v.Gf:Int)==1)=VR:=by rw[h1];rfl
  have h2:0<Wq v.Gf:=by omega
  have H1:=aa h1;clear h1;go_enter func76,ntmps76;exact TcM
 have hk:eZ v=0:=by
  exact Tcn
 rw[hk];clear hk;have hq:((Wq v.Gf:Int)==1)=VN:=by simp;omega
 go_enter func76,ntmps76;exact TcM
def CV(n d:Int)(w:H7)(h0:0<=n)(h1:n<=1000000000000)(h2:1<=d)(h3:d<=1000000):Calls prog 81 #[Bm Sj n,Bm Sj d] w fun e w'=>e=S6 (Bm Sj ((n+d-1)/d))/\w=w':=by
 have a5:0<=(n+d-1)/d:=lz WQ WQ;have a7:(n+d-1)/d<=n+d-1:=mS _ WQ;go_enter func81,ntmps81;go_wp2;go_ret;exact⟨rfl,rfl⟩
def pV(a b:H6)(e:Int):Bool:=e==0&&a.toList==b.toList
def mJ{a b:H6}:Calls prog 128 #[By a,By b,Bm Sj k] w fun e w'=>e=S6 (Ft (pV a b k))/\w=w':=by
 go_enter func128,ntmps128
 by_cases h:k=0
 ·subst h;go_wp2;go_ret;exact⟨ah (by simp[pV]),rfl⟩
 have h1:(k==0)=VN:=by simpa using h
 go_wp2;go_ret;exact⟨ah (by simp[pV,h1]),rfl⟩
def di(n lo hi:Int)(used:Bool)(w:H7):Calls prog 123 #[Bm Sj n,Bm Sj lo,Bm Sj hi,Ft used] w fun e w'=>e=S6 (Ft (bE n lo hi used))/\w=w':=by
 go_enter func123,ntmps123;cases used with
 |true =>
  by_cases h1:lo<=n
  ·by_cases h2:n<=hi
   ·go_wp2;go_ret;exact⟨ah (by simp[bE,h1,h2]),rfl⟩
   go_wp2;go_ret;exact⟨ah (by simp[bE,h2]),rfl⟩
  go_wp2;go_ret;exact⟨ah (by rw[bE,aw lX,cN (by omega:¬lo<=n)];rfl),rfl⟩
 |false =>
  go_wp2
  all_goals
   go_ret;exact⟨ah (by simp[bE]),rfl⟩
def DC(f:β->α->β)(b:β)(l:wy α)(k:Nat)(x:α)(h:l[k]?=Vv x):(l.take (k+1)).foldl f b=f ((l.take k).foldl f b) x:=by
 rw[take_snoc' l k x h,List.foldl_append];rfl
def lT(n l:Int)(h0:0<=n):0<=fF n l/\fF n l<=1073741824:=by unfold fF;omega
def uZ:∀(l:wy aB) (n:Int),0<=n->n<=1073741824->0<=l.foldl (fun n s=>fF n s.length) n/\l.foldl (fun n s=>fF n s.length) n<=1073741824
 |[],n,h0,h1=>⟨h0,h1⟩
 |s :: l,n,h0,_=>uZ l _ (lT n s.length h0).1 (lT n s.length h0).2
def yz{ok:LN}(v:ay)(hv:aN ok w u v)(hl:Wq v.Gf<=1000000000):Calls prog 79 #[Tk u.toArray] w fun e w'=>e=S6 (Bm Sj (C8 v))/\Below w.1.size w w':=by
 obtain⟨tv,sv,rfl,ew,gA⟩:=hv;obtain⟨tp,tc,rfl,_,_⟩:=ew.cap;obtain⟨sp,sc,rfl,a7,a8⟩:=gA.cap;replace gA:=aa gA;have HB:=aa (ae w (Sx (ZM v tp tc sp sc) 46));go_enter func79,ntmps79;go_wp2
 go_loopw[3,9] (fun n i wr=>∃k:Nat,k<=Wq v.Gf/\i=Bm Sj k/\n=Bm Sj ((v.Gf.take k).foldl (fun n s=>fF n s.length) 0)/\Below w.1.size w wr) (fun _ i _=>Wq v.Gf-(intOf i).toNat)
 exact⟨0,cg _,rfl,rfl,HB.o⟩;obtain⟨k,hk,rfl,rfl,hB⟩:=hrel;have pB:=uZ (v.Gf.take k) 0 WQ WQ;by_cases hlt:k<Wq v.Gf
 ·obtain⟨s,hs⟩:=aj v.Gf k hlt;obtain⟨b,off,us,rfl,_,cX,ez,eE,a5⟩:=gA.o.elem hs;obtain⟨a,st,rfl,o0,hst⟩:=eE;obtain⟨ap,ac,rfl,_,_⟩:=o0.cap;obtain⟨eN,eR,rfl,_,_⟩:=hst.cap;have cT:wr.1[b]?=w.1[b]?:=hB.block b cX;have q0:=ak5 cT a5;have HF:=aa (DC (fun n s=>fF n (aB.length s)) 0 v.Gf k s hs);generalize (v.Gf.take k).foldl (fun n s=>fF n (aB.length s)) 0=m at *;clear a5 ez hs cT o0 hst;go_wp2;go_roundw;exact⟨k+1,WQ,Zf,by rw[HF.o];rfl,hB.alloc hB.size _⟩;exact Ti
 obtain rfl:k=Wq v.Gf:=by omega
 go_wp2;go_ret;exact⟨cz (by rw[jz (bk _)];rfl),hB⟩
def zw(l:wy aR)(k:Nat)(x:aR)(h:l[k]?=Vv x):((l.take (k+1)).filter (·.vol)).map (·.on)=((l.take k).filter (·.vol)).map (·.on)++if x.vol then [x.on] else []:=by
 rw[take_snoc' l k x h,List.filter_append,gl];cases hx:x.vol<;>simp[List.filter_cons,hx]
def Dx(B:Nat)(w:H7)(l:QN)(e:Ending)(w':H7):Prop:=∃v,e=S6 v/\dF w' B v l/\Below w.1.size w w'
def kN{ok:LN}(s:aB)(pool:Bool)(w:H7)(hv:bC ok w u s)(hl:Wq s.Ga<=1000000):Calls prog 77 #[Tk u.toArray,Ft pool] w (Dx w.1.size w (dD s pool)):=by
 obtain⟨av,Rn,rfl,o0,hst⟩:=hv;obtain⟨ap,ac,rfl,au,aw⟩:=o0.cap;obtain⟨eN,eR,rfl,_,_⟩:=hst.cap;replace o0:=aa o0;clear hst;have HU:Hid (dD s pool=_):=aa (dD.eq_1 s pool);go_enter func77,ntmps77;go_wp2
 go_loopw[5,11] (fun l i wr=>∃k:Nat,k<=Wq s.Ga/\i=Bm Sj k/\dF wr (w.1.size+1) l (((s.Ga.take k).filter (·.vol)).map (·.on))/\wr.1[w.1.size]?=Vv (Sx (ZN s ap ac eN eR) 55 (0,0))/\Below w.1.size w wr) (fun _ i _=>Wq s.Ga-(intOf i).toNat)
 exact⟨0,cg _,rfl,dF.nil _ _,b9 w _,ae w _⟩;obtain⟨k,hk,rfl,a7,PX,hB⟩:=hrel;have ai:w.1.size<wr.1.size:=aq PX;by_cases hlt:k<Wq s.Ga
 ·obtain⟨x,hx⟩:=aj s.Ga k hlt;obtain⟨b,off,us,rfl,_,cX,ez,eE,am⟩:=o0.o.elem hx;obtain rfl:us=_:=eE;have cT:wr.1[b]?=w.1[b]?:=hB.block b cX;obtain⟨q0,q1,q2⟩:=Mn cT am;have HN:=aa (zw s.Ga k x hx);have hal:(((s.Ga.take k).filter (·.vol)).map (·.on)).length<=1000000:=by
   rw[fW];exact cA (tk _ _) (by rw[ey];omega)
  generalize ((s.Ga.take k).filter (·.vol)).map (·.on)=al at *;have Fc:=aa PX;clear PX;clear am ez hx cT;cases I2:x.vol with
  |false =>
   rw[I2]at q0;go_wp2;go_roundw;exact⟨k+1,WQ,Zf,by rw[HN.o,I2];simp only[pj,fY,eM];exact a7.alloc _,(cj _ _ _ ai).trans Fc.o,hB.alloc hB.size _⟩;exact Ti
  |true =>
   rw[I2]at q0;have ay:=((ae wr (Sx #[VR,x.on,Bm Sj x.start] 53)));have HOW:=aa a7;clear a7
   go_wp2_with(at_builtin;refine dz lX _ _ lX (w.1.size+1) _ al x.on lX ?c1 (wr.1.size+1) 1 lX ?c2 WQ ?c3 ?_)
   case c1=>exact(HOW.o.alloc _).alloc _
   case c2=>exact aD XN lX
   case c3=>simp;omega
   intro v' w1 Of a8 ao;have a9:Below w.1.size w w1:=((hB.alloc hB.size _).alloc ZY _).trans (a8.mono WQ);have Vf:=aa ((a8.block w.1.size WQ).trans ((cj _ _ _ ZY).trans ((cj _ _ _ ai).trans Fc.o)));clear a8 ao;go_wp2;go_roundw;exact⟨k+1,WQ,Zf,by rw[HN.o,I2];exact Of,Vf.o,a9⟩;exact Ti
 obtain rfl:k=Wq s.Ga:=by omega
 rw[jz (bk _)]at a7;have hal:((s.Ga.filter (·.vol)).map (·.on)).length<=1000000:=by
  rw[fW];exact cA (tk _ _) hl
 generalize (s.Ga.filter (·.vol)).map (·.on)=al at *;have y2:=cr PX 2 _ lX;have y6:=cr PX 6 _ lX;have y7:=cr PX 7 _ lX;have Fc:=aa PX;clear PX;have HOW:=aa a7;clear a7;cases Fi:s.log.toList.isEmpty with
 |true =>
  have af:(if s.log.toList.isEmpty then([]:QN) else [s.log])=[]:=by rw[Fi];rfl
  have ab:=aa af;clear af;cases pool with
  |false =>
   have HE:Hid (dD s VN=al):=aa (by rw[HU.o,ab.o];simp);clear HU;go_wp2;go_ret;exact⟨_,rfl,by rw[HE.o];exact dF.mono HOW.o WQ,hB⟩
  |true =>
   by_cases hk:s.kind=6
   ·have HE:Hid (dD s VR=al++[s.pool]):=aa (by rw[HU.o,ab.o,hk];simp);have Vg:(s.kind==6)=VR:=by simpa using hk
    have TL:=hB.size;clear HU;go_wp2_with(at_builtin;refine dz lX _ _ lX (w.1.size+1) _ (al) s.pool lX ?a1 wr.1.size 1 lX ?a2 ?a3 ?a4 ?_)
    case a1=>exact HOW.o.alloc _
    case a2=>exact aD lX rfl
    case a3=>omega
    case a4=>simp;omega
    intro v' w9 a5 ag _;have ak:=aa a5;clear a5;have J1:=aa ((hB.alloc hB.size _).trans (ag.mono WQ));clear ag;go_wp2;go_ret;exact⟨_,rfl,by rw[HE.o];exact dF.mono ak.o WQ,J1.o⟩
   have HE:Hid (dD s VR=al):=aa (by rw[HU.o,ab.o];simp[hk]);have Vg:(s.kind==6)=VN:=by simpa using hk
   clear HU;go_wp2;go_ret;exact⟨_,rfl,by rw[HE.o];exact dF.mono HOW.o WQ,hB⟩
 |false =>
  have af:(if s.log.toList.isEmpty then([]:QN) else [s.log])=[s.log]:=by rw[Fi];rfl
  have ab:=aa af;clear af;go_wp2_with(at_builtin;refine dz lX _ _ lX (w.1.size+1) _ al s.log lX ?d1 wr.1.size 1 lX ?d2 WQ ?d3 ?_)
  case d1=>exact HOW.o.alloc _
  case d2=>exact aD lX rfl
  case d3=>simp;omega
  intro v1 w1 Of a8 _;replace Of:=aa Of;have a9:Below w.1.size w w1:=(hB.alloc hB.size _).trans (a8.mono WQ);have ah:=(a8.block w.1.size WQ).trans ((cj _ _ _ ai).trans Fc.o);have y2:=cr ah 2 _ lX;have y7:=cr ah 7 _ lX;have az:w.1.size<w1.1.size:=aq ah;clear a8 ah;cases pool with
  |false =>
   have HE:Hid (dD s VN=(al++[s.log])):=aa (by rw[HU.o,ab.o];simp);clear HU;go_wp2;go_ret;exact⟨_,rfl,by rw[HE.o];exact dF.mono Of.o WQ,a9⟩
  |true =>
   by_cases hk:s.kind=6
   ·have HE:Hid (dD s VR=(al++[s.log])++[s.pool]):=aa (by rw[HU.o,ab.o,hk];simp);have Vg:(s.kind==6)=VR:=by simpa using hk
    have TL:=a9.size;clear HU;go_wp2_with(at_builtin;refine dz lX _ _ lX (w.1.size+1) _ ((al++[s.log])) s.pool lX ?b1 w1.1.size 1 lX ?b2 ?b3 ?b4 ?_)
    case b1=>exact Of.o.alloc _
    case b2=>exact aD lX rfl
    case b3=>simp;omega
    case b4=>simp;omega
    intro v' w9 a5 ag _;have ak:=aa a5;clear a5;have J1:=aa ((a9.alloc a9.size _).trans (ag.mono WQ));clear ag;go_wp2;go_ret;exact⟨_,rfl,by rw[HE.o];simp only[cV,IT,GO];exact dF.mono ak.o WQ,J1.o⟩
   have HE:Hid (dD s VR=(al++[s.log])):=aa (by rw[HU.o,ab.o];simp[hk]);have Vg:(s.kind==6)=VN:=by simpa using hk
   clear HU;go_wp2;go_ret;exact⟨_,rfl,by rw[HE.o];exact dF.mono Of.o WQ,a9⟩
def dm(x:eX):RH:=[Bm Sj x.least,Bm Sj x.greatest,Ft x.F9,Ft x.several,Bm Sj x.chunk,Ft x.stale,Ft x.pool,Ft x.log,Ft x.mode,Ft x.done]
noncomputable def Ai(f:Func)(n:Nat):Code:=((f.body.bind (kX n)).getD .skip)
structure iX where
 tp:IH
 tc:Nat
 dp:IH
 dc:Nat
 vp:IH
 vc:Nat
 hp:IH
 hc:Nat
def uY(g:af)(a:iX):RH:=[By g.name,Bm U8 g.id,Bm Sj g.seq,Bm Sj g.Gd,Bm Sj g.next,FG a.tp (Wq g.tags) a.tc,FG a.dp (Wq g.Gb) a.dc,FG a.vp (Wq g.F9) a.vc,FG a.hp (Wq g.history) a.hc]
structure aY where
 Gi:Int
 Gh:Int
 Gc:Int
 Gg:Int
 tag:H6
 near:H6
 sep:H6
structure dK(r:aY):Prop where
 l:-9223372036854775808<=r.Gi/\r.Gi<=9223372036854775807
 s:-9223372036854775808<=r.Gh/\r.Gh<=9223372036854775807
 e:-9223372036854775808<=r.Gc/\r.Gc<=9223372036854775807
 p:-9223372036854775808<=r.Gg/\r.Gg<=9223372036854775807
 t:r.tag.size<=9223372036854775807
 n:r.near.size<=9223372036854775807
 q:r.sep.size<=9223372036854775807
def FR(l:QN)(b:Nat)(w:H7)(e:Ending)(w':H7):Prop:=∃v:H6,e=S6 (By v)/\v∈l/\Src w' b/\cR (fun i=>i=b) w w'
def qH(b cap:Nat)(p:IH)(l:QN)(h0:0<l.length)(h1:l.length<=1000)(hr:ck aF 1 (fun k=>k≠b) w [FG p l.length cap] l)(h:Src w b):Calls prog 20 #[SL (Vv b),FG p l.length cap] w (FR l b w):=by
 have HR:=aa hr;obtain⟨p',c',e,a9,ab⟩:=hr.cap;injection e with e1 _ e3;subst e1;subst e3;clear hr;go_enter func20,ntmps20
 go_wp2_with fail;refine(bY b _ _ WQ WQ h).mono ?_;rintro e w1 ⟨v,rfl,a7,ae,hs,hm⟩;obtain⟨k,rfl⟩:=D4 a7;obtain⟨x,hx⟩:=aj l k WQ;obtain⟨g,off,u,rfl,hgb,hg,_,hv,a5⟩:=HR.o.elem hx;obtain rfl:u=[By x]:=hv;have a8:w1.cell? (g,off+k*1)=Vv (By x):=by
  rw[hm.cell hg hgb];simpa using a5 0 _ lX
 rw[fp]at a8;replace hx:=aa hx;clear a5;have af:k<l.length:=by omega
 go_wp2;go_ret;exact⟨x,rfl,ct hx.o,hs,hm⟩
structure dN(ok:LN)(w:H7)(g:af)(a:iX):Prop where
 tags:ck aF 1 ok w [FG a.tp (Wq g.tags) a.tc] g.tags
 Gb:ck aO 7 ok w [FG a.dp (Wq g.Gb) a.dc] g.Gb
 F9:ck aN 6 ok w [FG a.vp (Wq g.F9) a.vc] g.F9
 hist:ck lF 3 ok w [FG a.hp (Wq g.history) a.hc] g.history
variable {a:iX}
def dN.mv{ok ok':LN}(h:dN ok w g a)(hm:Mv ok ok' w w'):dN ok' w' g a :=
 ⟨(ck.moves aF.moves).mv hm h.tags,(ck.moves aO.moves).mv hm h.Gb,(ck.moves aN.moves).mv hm h.F9,(ck.moves lF.moves).mv hm h.hist⟩
def pF:Keyed prog 3:=int_keyed underlying3
def gY(w:H7)(bc:Nat)(g:af)(a:iX):Prop :=
 ∃sm,w.1[bc]?=Vv (Sx #[g.name,Bm U8 g.id,Bm Sj g.seq,Bm Sj g.Gd,Bm Sj g.next,FG a.tp (Wq g.tags) a.tc,FG a.dp (Wq g.Gb) a.dc,FG a.vp (Wq g.F9) a.vc,FG a.hp (Wq g.history) a.hc,.map (Vv sm)] 99 (0,0)) /\
  bi prog 3 w sm 10 eH
def gY.below(h:gY w bc g a)(hb:Below w.1.size w w'):gY w' bc g a:=by
 obtain⟨sm,h1,h2⟩:=h;exact⟨sm,(hb.block _ (aq h1)).trans h1,h2.block (hb.block _ h2.lt)⟩
def gY.lt(h:gY w bc g a):bc<w.1.size:=by
 obtain⟨sm,h1,_⟩:=h;exact aq h1
def uG(w:H7):(zeroValue 124).run prog w=.ok (jR yu) w:=by kernel_rfl
def oO(k:Int):eX:=(shapeOf k).getD yu
def uA(k:Int):(eH (Bm Sj k)).getD (jR yu)=jR (oO k):=by
 rw[show eH (Bm Sj k)=(shapeOf k).map jR from lX];unfold oO;cases shapeOf k<;>rfl
variable {x:eX}
def lu(h:shapeOf 2=Vv x):x.least=2:=by cases h;rfl
def kC(h:shapeOf 4=Vv x):x.least=3:=by cases h;rfl
def Mv.of{ok:LN}(hb:Below w.1.size w w'):Mv ok ok w w':=⟨hb.size,fun b a5 ho=>⟨ho,hb.block b a5⟩⟩
def jT{ext:Int}{start:Int}(h:shapeOf s.kind=VX):bJ ext s start=VN:=by unfold bJ;rw[h]
def jP{ext:Int}{start:Int}(h:shapeOf s.kind=Vv x):bJ ext s start=(s.start==start&&V7 (1<=s.length)&&V7 (s.length<=32768)&&V7 (x.least<=Wq s.Ga)&&V7 (Wq s.Ga<=x.greatest)&&s.Ga.all (bT x) &&
   fq ext s.chunk x&&(x.log||s.log.toList.isEmpty)&&(x.pool||s.pool.toList.isEmpty)&&dP s x&&bE s.device 1 65535 x.pool&&bE s.mode 1 2 x.mode&&bE s.done 0 s.length x.done &&
   !(s.kind==2&&!(s.length%Wq s.Ga==0))&&!(s.kind==4&&!(s.length%(Wq s.Ga-1)==0))):=by unfold bJ;rw[h]
open Go.Shelf Go.Sort
variable {w w' W:H7}{α:Type}{sz k n:Nat}{v:ay}{z:Nat × Nat}{l:wy aR}{F9:wy ay}{t:TypeId}{z0 z1 z2 z3 z4 z5 z6 z7 z8 z9 ad c1 c2 c3 c5 c6 c9 ZS ao Sf TO RK RW Rr SO Se St W0 ZD Wg Wr To UP aE ab eS da dj dq fs gE ff fb fa mT me ph qe qk mu mw mx nF pr o4 oE oR oS pe qt qv rl rm sE sa sd yk zd zp am an ax aL b7 b8 ba cl cn co cp cu cv cw cy cB d4 be bf bn bo bp bq br bt bu bA bB bL bN bV ca cb cc ce cf ci lE lP gn iS im ka kc ke:zY}{s:aB}{d:az}{x:H6}
def Mv.of'{ok:LN}(hb:Below w.1.size w w'):Mv ok ok w w':=⟨hb.size,fun b a5 ho=>⟨ho,hb.block b a5⟩⟩
def uV(V:jx α)(sz:Nat)(ok:LN)(l:wy α)(w:H7)(e:Ending)(w':H7):Prop :=
 ∃v,e=S6 v/\ck V sz (fun b=>ok b\/w.1.size<=b) w' [v] l/\Below w.1.size w w'
def vB{V:jx α}{ok:LN}{v:zY}{l:wy α}(h:ck V sz ok w [v] l)(hl:¬0<l.length)(ok':LN)(w':H7):∃p c,v=FG p 0 c/\ck V sz ok' w' [v] l:=by
 obtain⟨p,cap,e,h1,h2,_⟩:=h;obtain rfl:=IF.1 e;have h0:l.length=0:=by omega
 exact⟨p,cap,by rw[h0],p,cap,rfl,h1,h2,fun h=>absurd h hl⟩
def jy{V:jx α}{ok:LN}(h1:∀u x,V ok w u x->∀z∈u,z.oneCell'=VR):∀(l:wy α) (off:Nat),oh V sz ok w b off l->∃cs,Flat V sz ok w cs l/\∀(j:Nat) (z:zY),cs[j]?=Vv z->w.cell? (b,off+j)=Vv z
 |[],off,_=>⟨[],rfl,fun j z h=>by simp at h⟩
 |x :: l,off,h=>by
  obtain⟨u,hu,hv,hc⟩:=h 0 x lX;obtain⟨cs,hf,a5⟩:=jy h1 l (off+sz) (fun i y hy=>by
   obtain⟨u',a7,a8,a9⟩:=h (i+1) y Tdr;refine⟨u',a7,a8,fun j z hz=>?_⟩;have:=a9 j z hz;rwa[show off+(i+1)*sz+j=off+sz+i*sz+j from by rw[P7];omega]at this)
  refine⟨u++cs,⟨u,cs,rfl,hu,hv,h1 u x hv,hf⟩,fun j z hz=>?_⟩;by_cases hj:j<sz
  ·rw[Fo WQ]at hz;have:=hc j z hz;rwa[Nat.zero_mul,fg]at this
  rw[Cp WQ,hu]at hz;have:=a5 (j-sz) z hz;rwa[show off+sz+(j-sz)=off+j from by omega]at this
def qZ{V:jx α}{ok:LN}:∀(l:wy α) (cs:RH),Flat V sz ok w cs l->∀y∈cs,y.oneCell'=VR
 |[],_,hf,y,hy=>by
  simp only[Flat]at hf;subst hf;cases hy
 |_ :: l,_,⟨u,r,e,_,_,h3,h4⟩,y,hy=>by
  rw[e]at hy;rcases AS.1 hy with hy|hy
  ·exact h3 y hy
  exact qZ l r h4 y hy
def mH{V:jx α}(hV:Moves V){ρ:Ren}(L:SlLaysE0.n41 prog ρ){i0:TypeInfo}{z:zY}(hi:prog.info? (ρ.t 23)=Vv i0)(du:i0.zero=Vv z)(R0:i0.size=sz)(RC:i0.bytes=qS)(a9:z.cells.size=sz)(zc:0<sz)
  (a5:∀w,(Go.sizeOf (ρ.t 23)).run prog w=.ok sz w) {ok:LN} (l:wy α) (v:zY) (w:H7) (hr:ck V sz ok w [v] l) (h1:∀u x,V ok w u x->∀y∈u,y.oneCell'=VR) (On:l.length<=1000000) (hb:qS<=1000) (h0:0<l.length):Calls prog (ρ.f 41) #[v] w (uV V sz ok l w):=by
 obtain⟨p,cap,e,ab,ij,hp⟩:=hr;obtain rfl:=IF.1 e;obtain⟨b,off,rfl,cX,gR,hc⟩:=hp h0;obtain⟨cs,hf,aa⟩:=jy h1 l off hc;have hl:=Flat.length l cs hf;refine(AnyE.slices_Clone L i0 z sz qS hi du R0 RC a9 zc a5 b off l.length cap cs w hl Tdh (by have:l.length*qS<=1000000*1000:=ue On hb;omega) aa ?_).mono ?_
 ·exact qZ l cs hf
 rintro e w' ⟨v',rfl,ho,_,a7⟩;refine⟨v',rfl,?_,a7⟩;have a8:bF V sz (ρ.t 23) w.1.size ok w' v' l:=⟨cs,ho,Flat.moves hV ⟨a7.size,fun b hb ho=>⟨ho,a7.block b hb⟩⟩ _ _ hf⟩;exact a8.rd hV zc (fun b _ h=>.inl h) (fun b e=>.inr (fh ho b e).1)
def TeC(h:gt:=by rw[HN.o];exact⟨Vv _,0,rfl,by simp,by omega,fun h=>absurd h (by simp)⟩):=h
def TeT(h:gt:=by rw[HN.o];exact ck.nil):=h
def rD{ok:LN}(l:QN){v:zY}(hr:ck aF 1 ok w [v] l)(On:l.length<=1000000):Calls prog 126 #[v] w (uV aF 1 ok l w):=by
 by_cases h0:0<l.length
 ·obtain⟨i0,hi,du,R0,RC⟩:=gg CJ;exact mH aF.moves Tryz.cloneS hi du R0 RC lX YR Tryz.sizeOf9 l v w hr (fun u x h y hy=>by obtain rfl:u=_:=h;obtain rfl:=AM.1 hy;rfl) On YR h0
 obtain⟨p,c,rfl,a5⟩:=vB hr h0 (fun b=>ok b\/w.1.size<=b) w;clear hr;replace a5:=aa a5;have HN:Hid (l=[]):=aa (fX WQ);clear h0 On;cases p with
 |none =>
  refine(AnyE.slices_Clone_nil Tryz.cloneS _ _ w).mono ?_;rintro e w' ⟨rfl,rfl⟩;exact⟨_,rfl,TeT,bj _ _⟩
 |some a =>
  have a7:∀(w:H7) (a:IH) (n c n' c':Nat),(binOp .eql 26 (FG a n c) (FG VX n' c')).run prog w=.ok (Ft a.isNone) w:=fun w a n c n' c'=>Cl w _ _ a n c n' c' underlying26;go_enter func126,ntmps126;go_wp2;go_ret;exact⟨FG (Vv ⟨w.1.size,0,VX⟩) 0 0,rfl,TeC,(RowKit.Below.refl _ _).alloc (bk _) _⟩
def zk{ok:LN}(l:PI){v:zY}(hr:ck cO 1 ok w [v] l)(On:l.length<=1000000):Calls prog 165 #[v] w (uV cO 1 ok l w):=by
 by_cases h0:0<l.length
 ·obtain⟨i0,hi,du,R0,RC⟩:=gg tZ;exact mH cO.moves Tryz.cloneI hi du R0 RC lX YR Tryz.sizeOf3 l v w hr (fun u x h y hy=>by obtain rfl:u=_:=h;obtain rfl:=AM.1 hy;rfl) On YR h0
 obtain⟨p,c,rfl,a5⟩:=vB hr h0 (fun b=>ok b\/w.1.size<=b) w;clear hr;replace a5:=aa a5;have HN:Hid (l=[]):=aa (fX WQ);clear h0 On;cases p with
 |none =>
  refine(AnyE.slices_Clone_nil Tryz.cloneI _ _ w).mono ?_;rintro e w' ⟨rfl,rfl⟩;exact⟨_,rfl,TeT,bj _ _⟩
 |some a =>
  have a7:∀(w:H7) (a:IH) (n c n' c':Nat),(binOp .eql 22 (FG a n c) (FG VX n' c')).run prog w=.ok (Ft a.isNone) w:=fun w a n c n' c'=>Cl w _ _ a n c n' c' underlying22;go_enter func165,ntmps165;go_wp2;go_ret;exact⟨FG (Vv ⟨w.1.size,0,VX⟩) 0 0,rfl,TeC,(RowKit.Below.refl _ _).alloc (bk _) _⟩
def yS{ok:LN}(l:wy aR){v:zY}(hr:ck aQ 3 ok w [v] l)(On:l.length<=1000000):Calls prog 164 #[v] w (uV aQ 3 ok l w):=by
 by_cases h0:0<l.length
 ·obtain⟨i0,hi,du,R0,RC⟩:=gg kL;exact mH aQ.moves Tryz.cloneA hi du R0 RC lX YR Tryz.sizeOf53 l v w hr (fun u x h y hy=>by obtain rfl:u=_:=h;simp only[dr,cY,dg]at hy;rcases hy with rfl|rfl|rfl<;>rfl) On YR h0
 obtain⟨p,c,rfl,a5⟩:=vB hr h0 (fun b=>ok b\/w.1.size<=b) w;clear hr;replace a5:=aa a5;have HN:Hid (l=[]):=aa (fX WQ);clear h0 On;cases p with
 |none =>
  refine(AnyE.slices_Clone_nil Tryz.cloneA _ _ w).mono ?_;rintro e w' ⟨rfl,rfl⟩;exact⟨_,rfl,TeT,bj _ _⟩
 |some a =>
  have a7:∀(w:H7) (a:IH) (n c n' c':Nat),(binOp .eql 47 (FG a n c) (FG VX n' c')).run prog w=.ok (Ft a.isNone) w:=fun w a n c n' c'=>Cl w _ _ a n c n' c' underlying47;go_enter func164,ntmps164;go_wp2;go_ret;exact⟨FG (Vv ⟨w.1.size,0,VX⟩) 0 0,rfl,TeC,(RowKit.Below.refl _ _).alloc (bk _) _⟩
def CO{P:Program}{l:wy Oper}{a:Act}(h:Hid (wpList P a5 Q l a w)):wpList P a5 Q l a w:=h.o
structure qD(v:ay):Prop where
 tags:Wq v.tags<=1000000
 Gf:Wq v.Gf<=1000000
 seg:∀s∈v.Gf,Wq s.Ga<=1000000/\Wq s.stale<=1000000
def D8(ok:LN)(v:ay)(w:H7)(u:RH)(w':H7):Prop:=aN (fun b=>ok b\/w.1.size<=b) w' u v/\Below w.1.size w w'
def Eu(ok:LN)(v:ay)(w:H7)(e:Ending)(w':H7):Prop:=∃u,e=S6 (Tk u.toArray)/\D8 ok v w u w'
def QB(ok:LN)(L Z:Nat)(sv:zY):Nat->Prop:=fun b=>(ok b/\b<L)\/(Z<=b/\sv.ownBlock≠Vv b)
def Tcx(h:gt:=by
 rw[bw _ _ _ _ hb,bw _ _ _ _ hb,bw _ _ _ _ hb,bw _ _ _ _ hb,bw _ _ _ _ hb,bw _ _ _ _ hb]):=h
def TeM(h:gt:=by rcases ho with q|q<;>omega):=h
theorem pO{ok:LN}(v:ay)(hv:aN ok w u v)(hz:qD v):Calls prog 131 #[Tk u.toArray] w (Eu ok v w):=by
 obtain⟨tv,sv,rfl,ew,gA⟩:=hv;obtain⟨tp,tc,rfl,_,_⟩:=ew.cap;obtain⟨sp,sc,rfl,aY,aZ⟩:=gA.cap;have R0:=hz.tags;have RC:=hz.Gf;have HZ:=aa hz.seg;clear hz;replace ew:=aa ew;replace gA:=aa gA;have hb2:=(ae w (Sx (ZM v tp tc sp sc) 46)).trans ((ae (w.alloc (Sx (ZM v tp tc sp sc) 46)) (Sx Tak 46)).mono (ae w _).size);have h0:((w.alloc (Sx (ZM v tp tc sp sc) 46)).alloc (Sx Tak 46)).1[w.1.size]?=Vv (Sx (ZM v tp tc sp sc) 46 (0,0)):=(cj _ _ _ XN).trans (b9 w _);have h1:((w.alloc (Sx (ZM v tp tc sp sc) 46)).alloc (Sx Tak 46)).1[w.1.size+1]?=Vv (Sx Tak 46 (0,0)):=by
  have:=b9 (w.alloc (Sx (ZM v tp tc sp sc) 46)) (Sx Tak 46);rw[cW]at this;exact this
 have HZ2:Hid (((w.alloc (Sx (ZM v tp tc sp sc) 46)).alloc (Sx Tak 46)).1.size=w.1.size+2):=aa XN;replace hb2:=aa hb2;replace h0:=aa h0;replace h1:=aa h1;go_enter func131,ntmps131
 go_wp2_with fail;generalize b8:AI (AI w _) _=W2 at *;clear b8;have ba:W2.1.size=w.1.size+2:=HZ2.o;refine(rD (ok:=fun b=>ok b/\b<w.1.size) v.tags ((ck.moves aF.moves).mv ⟨hb2.o.size,fun b hb ho=>⟨⟨ho,hb⟩,hb2.o.block b hb⟩⟩ ew.o) R0).mono ?_;rintro e w3 ⟨bs,rfl,Fk,hb3⟩;obtain⟨a8,a9,rfl,_,_⟩:=Fk.cap;have bd:w.1.size+1<W2.1.size:=aq h1.o;have cJ:=YS hb2 hb3;have bu:w.1.size+2<=w3.1.size:=by have:=hb3.size;omega
 have aO:Hid (ck aF 1 (fun b=>(ok b/\b<w.1.size)\/(w.1.size+2<=b/\b<w3.1.size)) w3 [FG a8 (Wq v.tags) a9] v.tags):=aa ((ck.moves aF.moves).mv ⟨bk _,fun b hb ho=>⟨ho.imp id (fun q=>⟨WQ,hb⟩),rfl⟩⟩ Fk);have ab:=(hb3.block _ WQ).trans h0.o;have aR:=aa ((hb3.block _ bd).trans h1.o);clear hb3 Fk h0 h1 hb2 ew;have f4:=sr ab;have y4:=cr ab 4 _ lX;have y5:=cr ab 5 _ lX;replace ab:=aa ab;go_upto_region 4 with(fail);clear y4 y5 f4;have F2:=aa (block_setCell (i:=5) (FG VX 0 0) (block_setCell (w:=w3) (i:=4) (FG a8 (Wq v.tags) a9) ab.o));generalize aw:AF (AF w3 _ _) _ _=W4 at *;have hk4:∀k,k≠w.1.size->W4.1[k]?=w3.1[k]?:=fun k hk=>by rw[<- aw,bw _ _ _ _ hk,bw _ _ _ _ hk]
 have bz:W4.1.size=w3.1.size:=by rw[<- aw];simp[AF]
 have eI:Hid (Below w.1.size w W4):=aa (by rw[<- aw];exact(cJ.o.setCell (p:=⟨w.1.size,4,VX⟩) (bk _) _).setCell (p:=⟨w.1.size,5,VX⟩) (bk _) _);have aS:Hid (W4.1[w.1.size+1]?=_):=aa ((hk4 _ WQ).trans aR.o);have Q9:Hid (ck aF 1 (fun b=>(ok b/\b<w.1.size)\/(w.1.size+2<=b/\b<w3.1.size)) W4 [FG a8 (Wq v.tags) a9] v.tags):=aa ((ck.moves aF.moves).mv ⟨WQ,fun b hb ho=>⟨ho,hk4 b TeM⟩⟩ aO.o);clear aw hk4 aO aR ab cJ;generalize hZ:w3.1.size=Z at *;clear hZ;have Ra:Hid (W4.1[w.1.size]?=Vv (Sx #[v.name,Bm U8 v.id,v.hidden,v.ro,FG a8 (Wq v.tags) a9,FG VX 0 0] 46 (0,0))):=F2;clear F2;go_wp2;go_loopw[15] (fun i wr=>∃(k:Nat) (sv:zY),k<=Wq v.Gf/\i=Bm Sj k/\wr.1[w.1.size]?=Vv (Sx #[v.name,Bm U8 v.id,v.hidden,v.ro,FG a8 (Wq v.tags) a9,sv] 46 (0,0)) /\
   wr.1[w.1.size+1]?=Vv (Sx Tak 46 (0,0))/\bF bC 11 55 Z (QB ok w.1.size Z sv) wr sv (v.Gf.take k) /\
   ck aF 1 (fun b=>(ok b/\b<w.1.size)\/(w.1.size+2<=b/\b<Z)) wr [FG a8 (Wq v.tags) a9] v.tags/\Below w.1.size w wr/\Z<=wr.1.size) (fun i _=>Wq v.Gf-(intOf i).toNat)
 case atStart=>exact⟨0,_,cg _,rfl,Ra.o,aS.o,⟨[],gS _ _ _ _,rfl⟩,Q9.o,eI.o,WQ⟩
 clear Ra aS Q9 eI;obtain⟨k,sv,hk,rfl,PX,Yj,a7,ew,hB,hZ⟩:=hrel;replace PX:=aa PX;replace Yj:=aa Yj;replace a7:=aa a7;replace ew:=aa ew;by_cases hlt:k<Wq v.Gf
 ·obtain⟨s,hs⟩:=aj v.Gf k hlt;have zc:=HZ.o s (ct hs);have aH:=zc.1;have aI:=zc.2;obtain⟨b,off,us,rfl,gR,cX,ez,eE,aT⟩:=gA.o.elem hs;obtain⟨av,Rn,rfl,o0,hst⟩:=eE;obtain⟨ap,ac,rfl,_,_⟩:=o0.cap;obtain⟨eN,eR,rfl,_,_⟩:=hst.cap;have cT:wr.1[b]?=w.1[b]?:=hB.block b cX;have q0:=ak5 cT aT;have HN:=aa (take_snoc' v.Gf k s hs);replace o0:=aa o0;replace hst:=aa hst;clear aT ez hs cT zc;go_upto_region 7 with(fail);clear q0;have Yk:=b9 wr (Sx (ZN s ap ac eN eR) 55);have bD:(wr.alloc (Sx (ZN s ap ac eN eR) 55)).1.size=wr.1.size+1:=by simp
  have hk5:=ae wr (Sx (ZN s ap ac eN eR) 55);replace Yk:=aa Yk;replace hk5:=aa hk5;generalize bf:AI wr _=W5 at *;generalize bE:wr.1.size=Bs at *;clear bf;have hS:∀w':H7,Below W5.1.size W5 w'->w'.cell? (XM Bs 3)=Vv (FG ap (Wq s.Ga) ac)/\w'.cell? (XM Bs 5)=Vv (FG eN (Wq s.stale) eR):=fun w' hb=>by
   have:=(hb.block _ (aq Yk.o)).trans Yk.o;exact⟨cr this _ _ lX,cr this _ _ lX⟩
  replace hS:=aa hS;refine gW (fun w'=>w'.cell? (XM Bs 3)=Vv (FG ap (Wq s.Ga) ac)/\w'.cell? (XM Bs 5)=Vv (FG eN (Wq s.stale) eR)) 7 [] Yp (hS.o _ (bj _ _).drew) (fun a5=>?_);refine fS 0 a5 ?_;refine fS 1 a5 ?_;refine fS 3 a5 ?_;refine fS 4 a5 ?_;refine lR 2 fun K hK=>?_;go_simp;have eK:Hid (Below w.1.size w W5.drew):=aa ((hB.trans (hk5.o.mono (by have:=hB.size;omega))).drew);refine(yS (ok:=fun b=>ok b/\b<w.1.size) s.Ga ((ck.moves aQ.moves).mv ⟨eK.o.size,fun b hb ho=>⟨⟨ho,hb⟩,eK.o.block b hb⟩⟩ o0.o) aH).mono ?_;rintro e w6 ⟨bG,rfl,aJ,sh⟩;obtain⟨Rb,Rc,rfl,_,_⟩:=aJ.cap;have az:Hid (Below W5.1.size W5 w6):=aa ⟨sh.os,sh.tape,sh.output,sh.size,sh.block⟩;refine hK.o _ _ (hS.o _ az.o) ?_;clear hK K a5;have a5:=hS.o _ az.o;refine fS 6 a5 ?_;refine lR 5 fun K hK=>?_;go_simp;have Tq:Hid (Below w.1.size w w6):=YS eK sh;refine(zk (ok:=fun b=>ok b/\b<w.1.size) s.stale ((ck.moves cO.moves).mv ⟨Tq.o.size,fun b hb ho=>⟨⟨ho,hb⟩,Tq.o.block b hb⟩⟩ hst.o) aI).mono ?_;rintro e w7 ⟨bH,rfl,af,rn⟩;obtain⟨am,ao,rfl,_,_⟩:=af.cap;have aA:Hid (Below W5.1.size W5 w7):=YS az rn;refine hK.o _ _ (hS.o _ aA.o) ?_;clear hK K a5;refine aP Yp lX ?_;simp only[cQ,cL];have au:=(aA.o.block _ (aq Yk.o)).trans Yk.o;have g3:=cr au 3 _ lX;have g5:=cr au 5 _ lX
  have gf:=sr au;go_upto_region 8 with(fail);have bI:Z<=Bs:=by omega
  have bJ:Bs+1<=w7.1.size:=by have:=aA.o.size;omega
  have Re:=aa (block_setCell (i:=5) (FG am (Wq s.stale) ao) (block_setCell (w:=w7) (i:=3) (FG Rb (Wq s.Ga) Rc) au));clear g3 g5 gf au;generalize aB:AF (AF w7 _ _) _ _=W8 at *;have aU:∀k,k≠Bs->W8.1[k]?=w7.1[k]?:=fun k hk=>by rw[<- aB,bw _ _ _ _ hk,bw _ _ _ _ hk]
  have aV:W8.1.size=w7.1.size:=by rw[<- aB];simp[AF]
  have ag:Below Bs wr W8:=by
   rw[<- aB];exact(((hk5.o.trans (aA.o.mono WQ)).setCell (p:=⟨Bs,3,VX⟩) (bk _) _).setCell (p:=⟨Bs,5,VX⟩) (bk _) _)
  have aW:=aa aV;clear aB;replace ag:=aa ag;have mA:=hB.size;have Vt:Hid (Below w.1.size w W8):=aa (hB.trans (ag.o.mono WQ));have Rf:Hid (W8.1[Bs]?=Vv (Sx (ZN s Rb Rc am ao) 55 (0,0))):=Re;clear Re;obtain⟨g0,g1,g2,g3,g4,g5,g6,g7,g8,g9,bK⟩:=IC (cr Rf.o);have aK:=aa ((ag.o.block _ WQ).trans PX.o);have Vu:=aa ((ag.o.block _ WQ).trans Yj.o);have b5:=cr aK.o 5 _ lX;have bg:W8.frozen? (XM w.1.size 5)=VN:=by simp[BT,aK.o]
  have ah:Hid (∀g,sv.ownBlock=Vv g->Z<=g/\g<Bs):=aa fun g e=>by
   obtain⟨cs,ho,_⟩:=a7.o;have:=fh ho g e;omega
  -- the new element,and the slice so aL,in whatever world comes of new blocks
  have Yl:Hid (∀W:H7,Below W8.1.size W8 W->bC (fun b=>QB ok w.1.size Z sv b/\b<W8.1.size) W [Bm Sj s.start,Bm Sj s.length,Bm Sj s.kind,FG Rb (Wq s.Ga) Rc,Bm Sj s.chunk,FG am (Wq s.stale) ao,By s.log,By s.pool,Bm Sj s.device,Bm Sj s.mode,Bm Sj s.done] s /\
    bF bC 11 55 Z (fun b=>QB ok w.1.size Z sv b/\b<W8.1.size) W sv (v.Gf.take k)):=aa fun W hW=>by
   have k8:∀b,b<W8.1.size->W.1[b]?=W8.1[b]?:=fun b hb=>hW.block b hb
   have aL:∀b,((ok b/\b<w.1.size)\/Bs+1<=b)->b<W8.1.size->(QB ok w.1.size Z sv b/\b<W8.1.size)/\b≠Bs:=fun b hb hl=>by
    rcases hb with hb|hb
    ·exact⟨⟨.inl hb,hl⟩,WQ⟩
    exact⟨⟨.inr ⟨WQ,fun e=>by have:=ah.o b e;omega⟩,hl⟩,WQ⟩
   refine⟨⟨_,_,rfl,(ck.moves aQ.moves).mv ⟨?_,fun b hb ho=>?_⟩ aJ,(ck.moves cO.moves).mv ⟨?_,fun b hb ho=>?_⟩ af⟩,?_⟩
   ·have:=rn.size;have:=hW.size;omega
   ·have hl:b<W8.1.size:=by have:=rn.size;omega
    obtain⟨f1,f2⟩:=aL b (ho.imp id (fun q=>by have:W5.1.size<=b:=q;omega)) hl;exact⟨f1,(k8 b hl).trans ((aU b f2).trans (rn.block b hb))⟩
   ·have:=hW.size;omega
   ·have hl:b<W8.1.size:=by omega
    obtain⟨f1,f2⟩:=aL b (ho.imp id (fun q=>by have:=sh.size;have:W5.1.size<=w6.1.size:=az.o.size;omega)) hl;exact⟨f1,(k8 b hl).trans (aU b f2)⟩
   obtain⟨cs,ho,hf⟩:=a7.o;have hm:∀b,b<wr.1.size->W.1[b]?=wr.1[b]?:=fun b hb=>(k8 b WQ).trans (ag.o.block b WQ);exact⟨cs,aC ho (fun g e=>hm g (fh ho g e).2),Flat.moves bC.moves ⟨by have:=hW.size;omega,fun b hb h=>⟨⟨h,WQ⟩,hm b hb⟩⟩ _ _ hf⟩
  clear sh rn aJ af a7;obtain⟨i0,hi,du,ai,ak⟩:=gg Am;replace hi:=aa hi;replace du:=aa du;replace ai:=aa ai;replace ak:=aa ak;have bh:(v.Gf.take k).length<=1000000:=by rw[ey];omega
  clear aV;go_wp2_with(at_builtin;refine CO ?_)
  refine aa ?_;refine dX bC.moves underlying44 hi.o du.o ai.o ak.o lX YR YR lX lX Z (fun b=>QB ok w.1.size Z sv b/\b<W8.1.size) sv (v.Gf.take k) s lX (Yl.o _ (ae _ _)).2 W8.1.size 1 [Bm Sj s.start,Bm Sj s.length,Bm Sj s.kind,FG Rb (Wq s.Ga) Rc,Bm Sj s.chunk,FG am (Wq s.stale) ao,By s.log,By s.pool,Bm Sj s.device,Bm Sj s.mode,Bm Sj s.done] lX rfl (Yl.o _ (ae _ _)).1 Tdj (fun j y hy=>aD lX Tdr) bh ?c1 ?c2 ?_
  case c1=>have:=aW.o;simp;omega
  case c2=>exact fun b e h=>(h.1.elim (fun q=>by have:=ah.o b e;omega) (fun q=>q.2 e))
  intro gb cap w9 hp;have aE:=hp.grown;have bi:=aW.o;have bl:W8.1.size+1<=w9.1.size:=by have:=aE.size;simpa using this
  have k9:∀b,b<W8.1.size->sv.ownBlock≠Vv b->w9.1[b]?=W8.1[b]?:=fun b hb hn=>(aE.block b ZY (fun e=>hn e.symm)).trans (cj _ _ _ hb)
  have hgb:Z<=gb/\(sv.ownBlock=Vv gb\/W8.1.size<gb):=by
   rcases hp.at' with q|q
   ·exact⟨(ah.o gb q).1,.inl q⟩
   exact⟨by rw[q];simp;omega,.inr (by rw[q];simp)⟩
  have nL:sv.ownBlock≠Vv w.1.size:=fun e=>by have:=ah.o _ e;omega
  have aG:=(k9 w.1.size WQ nL).trans aK.o;have bm:=aa aG;have b5:=cr aG 5 _ lX;have bg:w9.frozen? (XM w.1.size 5)=VN:=by simp[BT,aG]
  have aX:Below w.1.size w w9:=by
   have:=(Vt.o.alloc WQ (Sx (ZN s Rb Rc am ao) 55));exact this.grown aE ZY (fun g e=>by have:=ah.o g e;omega)
  have ks:∀(z:zY) (b:Nat),b≠w.1.size->(w9.setCell (XM w.1.size 5) z).1[b]?=w9.1[b]?:=fun z b hb=>bw _ _ _ _ hb;have Vw:(FG (Vv gb) ((v.Gf.take k).length+1) cap).ownBlock=Vv gb:=rfl
  have Rg:Hid (∃(k':Nat) (aM:zY),k'<=Wq v.Gf/\Bm Sj ((k:Int)+1)=Bm Sj k'/\(w9.setCell (XM w.1.size 5) (FG (Vv gb) ((v.Gf.take k).length+1) cap)).1[w.1.size]?=Vv (Sx #[v.name,Bm U8 v.id,v.hidden,v.ro,FG a8 (Wq v.tags) a9,aM] 46 (0,0)) /\
    (w9.setCell (XM w.1.size 5) (FG (Vv gb) ((v.Gf.take k).length+1) cap)).1[w.1.size+1]?=Vv (Sx Tak 46 (0,0))/\bF bC 11 55 Z (QB ok w.1.size Z aM) (w9.setCell (XM w.1.size 5) (FG (Vv gb) ((v.Gf.take k).length+1) cap)) aM (v.Gf.take k') /\
    ck aF 1 (fun b=>(ok b/\b<w.1.size)\/(w.1.size+2<=b/\b<Z)) (w9.setCell (XM w.1.size 5) (FG (Vv gb) ((v.Gf.take k).length+1) cap)) [FG a8 (Wq v.tags) a9] v.tags/\Below w.1.size w (w9.setCell (XM w.1.size 5) (FG (Vv gb) ((v.Gf.take k).length+1) cap))/\Z<=(w9.setCell (XM w.1.size 5) (FG (Vv gb) ((v.Gf.take k).length+1) cap)).1.size):=aa (by
   have zc:(w9.setCell (XM w.1.size 5) (FG (Vv gb) ((v.Gf.take k).length+1) cap)).1.size=w9.1.size:=by simp[AF]
   refine⟨k+1,_,WQ,Zf,block_setCell (i:=5) _ bm.o,(ks _ _ WQ).trans ((k9 _ WQ (fun e=>by have:=ah.o _ e;omega)).trans Vu.o),?_,(ck.moves aF.moves).mv ⟨WQ,fun b hb ho=>⟨ho,?_⟩⟩ ew.o,aX.setCell (p:=⟨w.1.size,5,VX⟩) (bk _) _,WQ⟩
   ·rw[HN.o];obtain⟨cs,ho,hf⟩:=hp.own;refine⟨cs,?_,Flat.moves bC.moves ⟨WQ,fun b hb h=>⟨?_,ks _ b ?_⟩⟩ _ _ hf⟩
    ·exact aC ho (fun g e=>by
      obtain rfl:gb=g:=by injection e
      exact ks _ gb WQ)
    ·rcases h.1 with q|q
     ·exact .inl q
     refine .inr ⟨q.1,fun e=>?_⟩;obtain rfl:gb=b:=by injection e
     rcases hgb.2 with r|r
     ·exact q.2 r
     omega
    rcases h.1 with q|q
    ·omega
    omega
   have bp:b≠w.1.size:=by rcases ho with q|q<;>omega
   exact(ks _ b bp).trans ((k9 b WQ (fun e=>by have:=ah.o _ e;rcases ho with q|q<;>omega)).trans (ag.o.block b WQ)))
  rw[show(v.Gf.take k).length=k from by rw[ey];omega]at Rg;clear hp aE aG k9 ks hgb nL Vw bi bl aX;go_wp2;go_roundw;exact Rg.o;exact Ti
 obtain rfl:k=Wq v.Gf:=by omega
 rw[jz (bk _)]at a7;obtain⟨Rh,Ri,hsv⟩:∃p c,sv=FG p (Wq v.Gf) c:=by
  have:=a7.o.rd (ok':=fun _=>True) bC.moves YR (fun _ _ _=>trivial) (fun _ _=>trivial);obtain⟨p,c,e,_,_⟩:=this.cap;exact⟨p,c,e⟩
 subst hsv;have yL:=cr PX.o;have rL:=cr Yj.o;have rf:=sr Yj.o;obtain⟨y0,y1,y2,y3,y4,y5⟩:=sv6 yL;obtain⟨r0,r1,r2,r3,r4,r5⟩:=sv6 rL;clear yL rL;have Zw:Hid (∀wf:H7,(∀b,b≠w.1.size+1->wf.1[b]?=wr.1[b]?)->wf.1.size=wr.1.size->Below w.1.size w wf->D8 ok v w [By v.name,Bm U8 v.id,Ft v.hidden,Ft v.ro,FG a8 (Wq v.tags) a9,FG Rh (Wq v.Gf) Ri] wf):=aa fun wf hk hz hb=>by
  refine⟨⟨_,_,rfl,(ck.moves aF.moves).mv ⟨WQ,fun b _ ho=>⟨ho.imp (fun q=>q.1) (fun q=>by omega),hk b TeM⟩⟩ ew.o,?_⟩,hb⟩;obtain⟨cs,ho,hf⟩:=a7.o;have hg:∀g,(FG Rh (Wq v.Gf) Ri).ownBlock=Vv g->Z<=g:=fun g e=>(fh ho g e).1
  have:bF bC 11 55 Z (fun b=>ok b\/w.1.size<=b) wf (FG Rh (Wq v.Gf) Ri) v.Gf :=
   ⟨cs,aC ho (fun g e=>hk g (by have:=hg g e;omega)),Flat.moves bC.moves ⟨WQ,fun b _ h=>⟨h.imp (fun q=>q.1) (fun q=>by omega),hk b (by rcases h with q|q<;>omega)⟩⟩ _ _ hf⟩
  exact this.rd bC.moves YR (fun _ _ h=>h) (fun g e=>.inr (by have:=hg g e;omega))
 clear a7 ew PX Yj;go_wp2;refine eC (v:=Tk (ZM v a8 a9 Rh Ri)) (by simp[results,Tryz.results131,go_sem,r0,r1,r2,r3,r4,r5]) lX ⟨[By v.name,Bm U8 v.id,Ft v.hidden,Ft v.ro,FG a8 (Wq v.tags) a9,FG Rh (Wq v.Gf) Ri],rfl,Zw.o _ (fun b hb=>?_) ?_ ?_⟩
 ·exact Tcx
 ·simp[AF]
 have hL:∀(V:H7) (o:Nat) (z:zY),Below w.1.size w V->Below w.1.size w (V.setCell ⟨w.1.size+1,o,VX⟩ z):=fun V o z q=>q.setCell (p:=⟨w.1.size+1,o,VX⟩) TdP z
 exact hL _ _ _ (hL _ _ _ (hL _ _ _ (hL _ _ _ (hL _ _ _ (hL _ _ _ hB)))))
def aM(F9:wy ay)(nm:H6):Option ay:=F9.find? fun v=>V7 (v.name=nm)
def eY:ay:=⟨⟨#[]⟩,0,VN,VN,[],[]⟩
def F8(ok:LN)(F9:wy ay)(nm:H6)(w:H7)(e:Ending)(w':H7):Prop :=
 ∃u,e=S6 (Vj #[Tk u.toArray,Ft (aM F9 nm).isSome])/\D8 ok ((aM F9 nm).getD eY) w u w'
def yV(h:∀(j:Nat) (v:ay),j<F9.length->F9[j]?=Vv v->¬v.name=nm):aM F9 nm=VX:=by
 unfold aM;rw[List.find?_eq_none];intro v hv;obtain⟨j,hj⟩:=fc hv;simpa using h j v (AT.1 hj).1 hj
def CW(hno:∀(j:Nat) (u:ay),j<k->F9[j]?=Vv u->¬u.name=nm)(h:F9[k]?=Vv v)(e:v.name=nm):aM F9 nm=Vv v:=by
 unfold aM;rw[List.find?_eq_some_iff_getElem];obtain⟨hk,hv⟩:=AT.1 h;exact⟨by simpa using e,k,hk,hv,fun j hj=>by simpa using hno j _ hj (lO WQ)⟩
def Tap(x0:af)(x1:IH)(x2:Nat)(x3:IH)(x4:Nat)(x5:IH)(x6:Nat)(x7:IH)(x8:Nat):Tab #[By x0.name,Bm U8 x0.id,Bm Sj x0.seq,Bm Sj x0.Gd,Bm Sj x0.next,FG x1 (Wq x0.tags) x2,FG x3 (Wq x0.Gb) x4,FG x5 (Wq x0.F9) x6,FG x7 (Wq x0.history) x8]:=⟨⟩
def Tfd(h:gt:=by rw[CM.o];exact⟨_,_,rfl,ck.nil,ck.nil⟩):=h
def TdX(h:gt:=by rw[CM.o];rfl):=h
def Te5(h:gt:=by simp[results,Tryz.results75,go_sem,r0,r1,r2,r3,r4,r5]):=h
def TeK(h:gt:=by rcases hbz with q|q<;>omega):=h
def fA{ok:LN}(g:af)(a:iX)(nm:H6)(w:H7)(hr:ck aN 6 ok w [FG a.vp (Wq g.F9) a.vc] g.F9)(hd:Wq g.F9<=1000000)(hz:∀v∈g.F9,qD v):Calls prog 75 #[Tk (uY g a).toArray,By nm] w (F8 ok g.F9 nm w):=by
 obtain⟨ID,ao,au,G3,G4,Ge,Hb,Hc⟩:=a;dsimp only[uY]at hr ⊢;replace hr:=aa hr;have HT:=aa hz;clear hz;go_enter func75,ntmps75;go_wp2
 go_loopw[11] (fun i wr=>∃k:Nat,k<=Wq g.F9/\i=Bm Sj k/\(∀j D,j<k->g.F9[j]?=Vv D->¬D.name=nm)/\Below w.1.size w wr/\w.1.size+1<wr.1.size/\wr.1[w.1.size+1]?=Vv (Sx Tak 46 (0,0))) (fun i _=>Wq g.F9-(intOf i).toNat)
 case atStart =>
  refine⟨0,cg _,rfl,(fun j D hj=>by omega),((bj _ _).alloc (bk _) _).alloc XN _,XN,?_⟩;have:=b9 (w.alloc (Sx (Tap g ID ao au G3 G4 Ge Hb Hc) 31)) (Sx Tak 46);rw[cW]at this;exact this
 obtain⟨k,hk,rfl,hno,hB,hz,hR⟩:=hrel;have Ty:=aa hno;clear hno;by_cases hlt:k<Wq g.F9
 ·obtain⟨v,hv⟩:=aj g.F9 k hlt;have zc:=HT.o v (ct hv);replace zc:=aa zc;obtain⟨b,off,u,rfl,gR,cX,ez,sA,am⟩:=hr.o.elem hv;have My:=aa sA;obtain⟨tv,sv,rfl,ew,gA⟩:=sA;obtain⟨tp,tc,rfl,_,_⟩:=ew.cap;obtain⟨sp,sc,rfl,_,_⟩:=gA.cap;have cT:wr.1[b]?=w.1[b]?:=hB.block b cX;have q0:=sw6 cT am;have HD:=aa hv;clear hv;have yi:=aa hR;clear hR;clear am ez cT ew gA;by_cases pD:v.name=nm
  ·have G2:=ae wr (Sx #[nm,Bm U8 v.id,v.hidden,v.ro,FG tp (Wq v.tags) tc,FG sp (Wq v.Gf) sc] 46);have a5:=aa ((G2.block _ hz).trans yi.o);have pL:=aa (hB.trans (G2.mono WQ));clear G2;have a7:=aa pD;go_wp2_with fail;generalize DA:wr.alloc _=WA at *;clear DA;have sA:aN (fun b=>ok b/\b<w.1.size) WA [By nm,Bm U8 v.id,Ft v.hidden,Ft v.ro,FG tp (Wq v.tags) tc,FG sp (Wq v.Gf) sc] v:=by
    have:=aN.moves.mv (ok':=fun b=>ok b/\b<w.1.size) ⟨pL.o.size,fun b hb ho=>⟨⟨ho,hb⟩,pL.o.block b hb⟩⟩ My.o;rwa[a7.o]at this
   have av:=aa pL.o.size;refine(pO (ok:=fun b=>ok b/\b<w.1.size) v sA zc.o).mono ?_;rintro e w3 ⟨u3,rfl,aw,hb3⟩;obtain⟨Ym,sv3,rfl,Fk,a8⟩:=aw;have Yn:=aa (show aN _ w3 _ v from⟨Ym,sv3,rfl,Fk,a8⟩);obtain⟨a9,ab,rfl,_,_⟩:=Fk.cap;obtain⟨ag,ah,rfl,_,_⟩:=a8.cap;clear Fk a8;have ai:=(hb3.block _ (aq a5.o)).trans a5.o;have rL:=cr ai;obtain⟨r0,r1,r2,r3,r4,r5⟩:=sv6 rL;have rf:=sr ai;have cJ:=YS pL hb3;have Qf:=aa (aq a5.o);replace hb3:=aa hb3;clear rL ai;have CM:Hid (aM g.F9 nm=Vv v):=aa (CW Ty.o HD.o a7.o);have ak:=Yn;rw[a7.o]at ak;have Zw:Hid (∀wf:H7,(∀b,b≠w.1.size+1->wf.1[b]?=w3.1[b]?)->wf.1.size=w3.1.size->Below w.1.size w wf->D8 ok ((aM g.F9 nm).getD eY) w [By nm,Bm U8 v.id,Ft v.hidden,Ft v.ro,FG a9 (Wq v.tags) ab,FG ag (Wq v.Gf) ah] wf):=aa fun wf hk hz hb=>by
    rw[CM.o];refine⟨aN.moves.mv ⟨WQ,fun b ay ho=>?_⟩ ak.o,hb⟩;have hbz:(ok b/\b<w.1.size)\/WA.1.size<=b:=ho;have:=av.o;have:=Qf.o;exact⟨hbz.imp (fun q=>q.1) (fun q=>by omega),hk b TeK⟩
   clear Yn ak My HD;go_wp2;refine eC (v:=Vj #[Tk #[nm,Bm U8 v.id,v.hidden,v.ro,FG a9 (Wq v.tags) ab,FG ag (Wq v.Gf) ah],VR]) Te5 lX ⟨[By nm,Bm U8 v.id,Ft v.hidden,Ft v.ro,FG a9 (Wq v.tags) ab,FG ag (Wq v.Gf) ah],TdX,Zw.o _ (fun b hb=>?_) ?_ ?_⟩
   ·exact Tcx
   ·simp[AF]
   have hL:∀(V:H7) (o:Nat) (z:zY),Below w.1.size w V->Below w.1.size w (V.setCell ⟨w.1.size+1,o,VX⟩ z):=fun V o z q=>q.setCell (p:=⟨w.1.size+1,o,VX⟩) TdP z
   exact hL _ _ _ (hL _ _ _ (hL _ _ _ (hL _ _ _ (hL _ _ _ (hL _ _ _ cJ.o)))))
  exact Tbl
 obtain rfl:k=Wq g.F9:=by omega
 have rL:=cr hR;obtain⟨r0,r1,r2,r3,r4,r5⟩:=sv6 rL;have rf:=sr hR;clear rL hR;have CM:Hid (aM g.F9 nm=VX):=aa (yV Ty.o);go_wp2;refine eC (v:=Vj #[Tk Tak,VN]) Te5 lX ⟨[By ⟨#[]⟩,Bm U8 0,Ft VN,Ft VN,FG VX 0 0,FG VX 0 0],TdX,Tfd,?_⟩;have hL:∀(V:H7) (o:Nat) (z:zY),Below w.1.size w V->Below w.1.size w (V.setCell ⟨w.1.size+1,o,VX⟩ z):=fun V o z q=>q.setCell (p:=⟨w.1.size+1,o,VX⟩) TdP z;exact hL _ _ _ (hL _ _ _ (hL _ _ _ (hL _ _ _ (hL _ _ _ (hL _ _ _ hB)))))
def gT:az:=⟨⟨#[]⟩,0,0,0,VN,VN,[]⟩
def Fu(ok:LN)(d:az)(w:H7)(u:RH)(w':H7):Prop:=aO (fun b=>ok b\/w.1.size<=b) w' u d/\Below w.1.size w w'
def FQ(ok:LN)(Gb:wy az)(nm:H6)(w:H7)(e:Ending)(w':H7):Prop :=
 ∃u,e=S6 (Vj #[Tk u.toArray,Ft (bH Gb nm).isSome])/\Fu ok ((bH Gb nm).getD gT) w u w'
def nZ{ok:LN}(g:af)(a:iX)(nm:H6)(w:H7)(hr:ck aO 7 ok w [FG a.dp (Wq g.Gb) a.dc] g.Gb)(hd:Wq g.Gb<=1000000)(hz:∀d∈g.Gb,Wq d.tags<=1000000):Calls prog 72 #[Tk (uY g a).toArray,By nm] w (FQ ok g.Gb nm w):=by
 obtain⟨ID,ah,ai,G3,G4,Ge,Hb,Hc⟩:=a;dsimp only[uY]at hr ⊢;replace hr:=aa hr;have HT:=aa hz;clear hz;go_enter func72,ntmps72;go_wp2
 go_loopw[11] (fun i wr=>∃k:Nat,k<=Wq g.Gb/\i=Bm Sj k/\(∀j D,j<k->g.Gb[j]?=Vv D->¬D.name=nm)/\Below w.1.size w wr/\w.1.size+1<wr.1.size/\wr.1[w.1.size+1]?=Vv (Sx Tal 69 (0,0))) (fun i _=>Wq g.Gb-(intOf i).toNat)
 case atStart =>
  refine⟨0,cg _,rfl,(fun j D hj=>by omega),((bj _ _).alloc (bk _) _).alloc XN _,XN,?_⟩;have:=b9 (w.alloc (Sx (Tap g ID ah ai G3 G4 Ge Hb Hc) 31)) (Sx Tal 69);rw[cW]at this;exact this
 obtain⟨k,hk,rfl,hno,hB,hz,hR⟩:=hrel;have Ty:=aa hno;clear hno;by_cases hlt:k<Wq g.Gb
 ·obtain⟨d,hv⟩:=aj g.Gb k hlt;have zc:=HT.o d (ct hv);obtain⟨b,off,u,rfl,gR,cX,ez,sA,a9⟩:=hr.o.elem hv;obtain⟨tv,rfl,ew⟩:=sA;have Hx:=aa ew;obtain⟨tp,tc,rfl,_,_⟩:=ew.cap;have cT:wr.1[b]?=w.1[b]?:=hB.block b cX;have q0:=sw7 cT a9;have HD:=aa hv;clear hv;have yi:=aa hR;clear hR;clear a9 ez cT ew;by_cases pD:d.name=nm
  ·have G2:=ae wr (Sx (Tay nm d tp tc) 69);have Vs:=aa (b9 wr (Sx (Tay nm d tp tc) 69));have ab:=aa ((G2.block _ hz).trans yi.o);have pL:=aa (hB.trans (G2.mono WQ));have Qf:Hid (wr.1.size<(wr.alloc (Sx (Tay nm d tp tc) 69)).1.size):=aa XN;clear G2;have ag:=aa pD;go_wp2_with fail;generalize DA:wr.alloc _=WA at *;clear DA;refine(rD (ok:=fun b=>ok b/\b<w.1.size) d.tags ((ck.moves aF.moves).mv ⟨pL.o.size,fun b hb ho=>⟨⟨ho,hb⟩,pL.o.block b hb⟩⟩ Hx.o) zc).mono ?_;rintro e w3 ⟨Ym,rfl,Fk,hb3⟩;obtain⟨a5,a7,rfl,_,_⟩:=Fk.cap;replace Fk:=aa Fk;have hx:=(hb3.block _ Qf.o).trans Vs.o;have a8:=(hb3.block _ (by have:=aq ab.o;omega)).trans ab.o;have am:=aa hb3.size;have cJ:=YS pL hb3;have xL:=cr hx;have rL:=cr a8;have x0:=xL 0 _ lX;have r0:=rL 0 _ lX;have x1:=xL 1 _ lX;have r1:=rL 1 _ lX;have x2:=xL 2 _ lX;have r2:=rL 2 _ lX;have x3:=xL 3 _ lX;have r3:=rL 3 _ lX;have x4:=xL 4 _ lX;have r4:=rL 4 _ lX;have x5:=xL 5 _ lX;have r5:=rL 5 _ lX;have x6:=xL 6 _ lX;have r6:=rL 6 _ lX;have xf:=sr hx;have rf:=sr a8;clear xL rL hx a8 hb3;have CM:Hid (bH g.Gb nm=Vv d):=aa (pR Ty.o HD.o ag.o);have hne:¬wr.1.size=w.1.size+1:=by omega
   have ak:¬w.1.size+1=wr.1.size:=by omega
   have Yg:=hB.size;have Zw:Hid (∀wf:H7,(∀b,b≠w.1.size+1->b≠wr.1.size->wf.1[b]?=w3.1[b]?)->wf.1.size=w3.1.size->Below w.1.size w wf->Fu ok ((bH g.Gb nm).getD gT) w [By nm,Bm U8 d.id,Bm Sj d.first,Bm Sj d.Gc,Ft d.closed,Ft d.missing,FG a5 (Wq d.tags) a7] wf):=aa fun wf hk ao hb=>by
    rw[CM.o];refine⟨⟨_,by rw[<- ag.o];rfl,(ck.moves aF.moves).mv ⟨WQ,fun b au ho=>?_⟩ Fk.o⟩,hb⟩;have hbz:(ok b/\b<w.1.size)\/WA.1.size<=b:=ho;have:=Qf.o;exact⟨hbz.imp (fun q=>q.1) (fun q=>by omega),hk b TeK TeK⟩
   generalize hBx:wr.1.size=Bx at *;replace hBx:=aa hBx;clear Fk Hx HD;go_wp2;refine eC (v:=Vj #[Tk (Tay nm d a5 a7),VR]) Tee lX ⟨[By nm,Bm U8 d.id,Bm Sj d.first,Bm Sj d.Gc,Ft d.closed,Ft d.missing,FG a5 (Wq d.tags) a7],TdX,Zw.o _ (fun b hb hb2=>?_) ?_ ?_⟩
   ·rw[bw _ _ _ _ hb,bw _ _ _ _ hb,bw _ _ _ _ hb,bw _ _ _ _ hb,bw _ _ _ _ hb,bw _ _ _ _ hb,bw _ _ _ _ hb,bw _ _ _ _ hb2]
   ·simp[AF]
   exact Tbg
  exact Tbl
 obtain rfl:k=Wq g.Gb:=by omega
 have rL:=cr hR;obtain⟨r0,r1,r2,r3,r4,r5,r6⟩:=se rL;have rf:=sr hR;clear rL hR;have CM:Hid (bH g.Gb nm=VX):=aa (ui Ty.o);go_wp2;refine eC (v:=Vj #[Tk Tal,VN]) Tee lX ⟨[By ⟨#[]⟩,Bm U8 0,Bm Sj 0,Bm Sj 0,Ft VN,Ft VN,FG VX 0 0],TdX,by rw[CM.o];exact⟨_,rfl,ck.nil⟩,?_⟩;have hL:∀(V:H7) (o:Nat) (z:zY),Below w.1.size w V->Below w.1.size w (V.setCell ⟨w.1.size+1,o,VX⟩ z):=fun V o z q=>q.setCell (p:=⟨w.1.size+1,o,VX⟩) TdP z;exact hL _ _ _ (hL _ _ _ (hL _ _ _ (hL _ _ _ (hL _ _ _ (hL _ _ _ (hL _ _ _ hB))))))
def wI{l:RH}{q:Nat × Nat}(h:W.1[b]?=Vv (Sx l.toArray t q))(i:Nat){z:zY}(hz:l[i]?=Vv z):W.cell? (b,i)=Vv z:=by
 exact TcK
def BO(h:W.1[b]?=Vv (Sx #[z0,z1,z2,z3,z4,z5] t (0,0))):(∀i,W.frozen? ⟨b,i,VX⟩=VN)/\W.cell? b=Vv z0/\W.cell? (XM b 1)=Vv z1/\W.cell? (XM b 2)=Vv z2/\W.cell? (XM b 3)=Vv z3/\W.cell? (XM b 4)=Vv z4/\W.cell? (XM b 5)=Vv z5 :=
 ⟨fun i=>by simp[BT,h],wI (l:=[z0,z1,z2,z3,z4,z5]) h 0 lX,wI (l:=[z0,z1,z2,z3,z4,z5]) h 1 lX,wI (l:=[z0,z1,z2,z3,z4,z5]) h 2 lX,wI (l:=[z0,z1,z2,z3,z4,z5]) h 3 lX,wI (l:=[z0,z1,z2,z3,z4,z5]) h 4 lX,wI (l:=[z0,z1,z2,z3,z4,z5]) h 5 lX⟩
def zQ(h:W.1[b]?=Vv (Sx #[z0,z1,z2,z3,z4,z5] t (0,0)))(x0 x1 x2 x3 x4 x5:zY)(e:V=(AF (AF (AF (AF (AF (AF W ⟨b,0,VX⟩ x0) ⟨b,1,VX⟩ x1) ⟨b,2,VX⟩ x2) ⟨b,3,VX⟩ x3) ⟨b,4,VX⟩ x4) ⟨b,5,VX⟩ x5)):(∀(n:Nat) (w:H7),n<=b->Below n w W->Below n w V)/\V.1[b]?=Vv (Sx #[x0,x1,x2,x3,x4,x5] t (0,0))/\∀k,k≠b->V.1[k]?=W.1[k]?:=by
 subst e;have hs:∀(n:Nat) (w V:H7) (o:Nat) (z:zY),n<=b->Below n w V->Below n w (V.setCell ⟨b,o,VX⟩ z):=fun n w V o z hn q=>q.setCell (p:=⟨b,o,VX⟩) hn z;have k0:(AF W ⟨b,0,VX⟩ x0).1[b]?=Vv (Sx #[x0,z1,z2,z3,z4,z5] t (0,0)):=block_setCell (i:=0) x0 h;have k1:(AF (AF W ⟨b,0,VX⟩ x0) ⟨b,1,VX⟩ x1).1[b]?=Vv (Sx #[x0,x1,z2,z3,z4,z5] t (0,0)):=block_setCell (i:=1) x1 k0;have k2:(AF (AF (AF W ⟨b,0,VX⟩ x0) ⟨b,1,VX⟩ x1) ⟨b,2,VX⟩ x2).1[b]?=Vv (Sx #[x0,x1,x2,z3,z4,z5] t (0,0)):=block_setCell (i:=2) x2 k1;have k3:(AF (AF (AF (AF W ⟨b,0,VX⟩ x0) ⟨b,1,VX⟩ x1) ⟨b,2,VX⟩ x2) ⟨b,3,VX⟩ x3).1[b]?=Vv (Sx #[x0,x1,x2,x3,z4,z5] t (0,0)):=block_setCell (i:=3) x3 k2;have k4:(AF (AF (AF (AF (AF W ⟨b,0,VX⟩ x0) ⟨b,1,VX⟩ x1) ⟨b,2,VX⟩ x2) ⟨b,3,VX⟩ x3) ⟨b,4,VX⟩ x4).1[b]?=Vv (Sx #[x0,x1,x2,x3,x4,z5] t (0,0)):=block_setCell (i:=4) x4 k3;have k5:(AF (AF (AF (AF (AF (AF W ⟨b,0,VX⟩ x0) ⟨b,1,VX⟩ x1) ⟨b,2,VX⟩ x2) ⟨b,3,VX⟩ x3) ⟨b,4,VX⟩ x4) ⟨b,5,VX⟩ x5).1[b]?=Vv (Sx #[x0,x1,x2,x3,x4,x5] t (0,0)):=block_setCell (i:=5) x5 k4;exact⟨fun n w hn q=>(hs n w _ _ _ hn (hs n w _ _ _ hn (hs n w _ _ _ hn (hs n w _ _ _ hn (hs n w _ _ _ hn (hs n w _ _ _ hn q)))))),k5,fun k hk=>by rw[bw _ _ _ _ hk,bw _ _ _ _ hk,bw _ _ _ _ hk,bw _ _ _ _ hk,bw _ _ _ _ hk,bw _ _ _ _ hk]⟩
def Gq(h:W.1[b]?=Vv (Sx #[z0,z1,z2,z3,z4,z5,z6] t (0,0))):(∀i,W.frozen? ⟨b,i,VX⟩=VN)/\W.cell? b=Vv z0/\W.cell? (XM b 1)=Vv z1/\W.cell? (XM b 2)=Vv z2/\W.cell? (XM b 3)=Vv z3/\W.cell? (XM b 4)=Vv z4/\W.cell? (XM b 5)=Vv z5/\W.cell? (XM b 6)=Vv z6 :=
 ⟨fun i=>by simp[BT,h],wI (l:=[z0,z1,z2,z3,z4,z5,z6]) h 0 lX,wI (l:=[z0,z1,z2,z3,z4,z5,z6]) h 1 lX,wI (l:=[z0,z1,z2,z3,z4,z5,z6]) h 2 lX,wI (l:=[z0,z1,z2,z3,z4,z5,z6]) h 3 lX,wI (l:=[z0,z1,z2,z3,z4,z5,z6]) h 4 lX,wI (l:=[z0,z1,z2,z3,z4,z5,z6]) h 5 lX,wI (l:=[z0,z1,z2,z3,z4,z5,z6]) h 6 lX⟩
def CR(h:W.1[b]?=Vv (Sx #[z0,z1,z2,z3,z4,z5,z6] t (0,0)))(x0 x1 x2 x3 x4 x5 x6:zY)(e:V=(AF (AF (AF (AF (AF (AF (AF W ⟨b,0,VX⟩ x0) ⟨b,1,VX⟩ x1) ⟨b,2,VX⟩ x2) ⟨b,3,VX⟩ x3) ⟨b,4,VX⟩ x4) ⟨b,5,VX⟩ x5) ⟨b,6,VX⟩ x6)):(∀(n:Nat) (w:H7),n<=b->Below n w W->Below n w V)/\V.1[b]?=Vv (Sx #[x0,x1,x2,x3,x4,x5,x6] t (0,0))/\∀k,k≠b->V.1[k]?=W.1[k]?:=by
 subst e;have hs:∀(n:Nat) (w V:H7) (o:Nat) (z:zY),n<=b->Below n w V->Below n w (V.setCell ⟨b,o,VX⟩ z):=fun n w V o z hn q=>q.setCell (p:=⟨b,o,VX⟩) hn z;have k0:(AF W ⟨b,0,VX⟩ x0).1[b]?=Vv (Sx #[x0,z1,z2,z3,z4,z5,z6] t (0,0)):=block_setCell (i:=0) x0 h;have k1:(AF (AF W ⟨b,0,VX⟩ x0) ⟨b,1,VX⟩ x1).1[b]?=Vv (Sx #[x0,x1,z2,z3,z4,z5,z6] t (0,0)):=block_setCell (i:=1) x1 k0;have k2:(AF (AF (AF W ⟨b,0,VX⟩ x0) ⟨b,1,VX⟩ x1) ⟨b,2,VX⟩ x2).1[b]?=Vv (Sx #[x0,x1,x2,z3,z4,z5,z6] t (0,0)):=block_setCell (i:=2) x2 k1;have k3:(AF (AF (AF (AF W ⟨b,0,VX⟩ x0) ⟨b,1,VX⟩ x1) ⟨b,2,VX⟩ x2) ⟨b,3,VX⟩ x3).1[b]?=Vv (Sx #[x0,x1,x2,x3,z4,z5,z6] t (0,0)):=block_setCell (i:=3) x3 k2;have k4:(AF (AF (AF (AF (AF W ⟨b,0,VX⟩ x0) ⟨b,1,VX⟩ x1) ⟨b,2,VX⟩ x2) ⟨b,3,VX⟩ x3) ⟨b,4,VX⟩ x4).1[b]?=Vv (Sx #[x0,x1,x2,x3,x4,z5,z6] t (0,0)):=block_setCell (i:=4) x4 k3;have k5:(AF (AF (AF (AF (AF (AF W ⟨b,0,VX⟩ x0) ⟨b,1,VX⟩ x1) ⟨b,2,VX⟩ x2) ⟨b,3,VX⟩ x3) ⟨b,4,VX⟩ x4) ⟨b,5,VX⟩ x5).1[b]?=Vv (Sx #[x0,x1,x2,x3,x4,x5,z6] t (0,0)):=block_setCell (i:=5) x5 k4;have k6:(AF (AF (AF (AF (AF (AF (AF W ⟨b,0,VX⟩ x0) ⟨b,1,VX⟩ x1) ⟨b,2,VX⟩ x2) ⟨b,3,VX⟩ x3) ⟨b,4,VX⟩ x4) ⟨b,5,VX⟩ x5) ⟨b,6,VX⟩ x6).1[b]?=Vv (Sx #[x0,x1,x2,x3,x4,x5,x6] t (0,0)):=block_setCell (i:=6) x6 k5;exact⟨fun n w hn q=>(hs n w _ _ _ hn (hs n w _ _ _ hn (hs n w _ _ _ hn (hs n w _ _ _ hn (hs n w _ _ _ hn (hs n w _ _ _ hn (hs n w _ _ _ hn q))))))),k6,fun k hk=>by rw[bw _ _ _ _ hk,bw _ _ _ _ hk,bw _ _ _ _ hk,bw _ _ _ _ hk,bw _ _ _ _ hk,bw _ _ _ _ hk,bw _ _ _ _ hk]⟩
def J5(h:W.1[b]?=Vv (Sx #[z0,z1,z2,z3,z4,z5,z6,z7,z8,z9,ad] t (0,0))):(∀i,W.frozen? ⟨b,i,VX⟩=VN)/\W.cell? b=Vv z0/\W.cell? (XM b 1)=Vv z1/\W.cell? (XM b 2)=Vv z2/\W.cell? (XM b 3)=Vv z3/\W.cell? (XM b 4)=Vv z4/\W.cell? (XM b 5)=Vv z5/\W.cell? (XM b 6)=Vv z6/\W.cell? (XM b 7)=Vv z7/\W.cell? (XM b 8)=Vv z8/\W.cell? (XM b 9)=Vv z9/\W.cell? (XM b 10)=Vv ad :=
 ⟨fun i=>by simp[BT,h],wI (l:=[z0,z1,z2,z3,z4,z5,z6,z7,z8,z9,ad]) h 0 lX,wI (l:=[z0,z1,z2,z3,z4,z5,z6,z7,z8,z9,ad]) h 1 lX,wI (l:=[z0,z1,z2,z3,z4,z5,z6,z7,z8,z9,ad]) h 2 lX,wI (l:=[z0,z1,z2,z3,z4,z5,z6,z7,z8,z9,ad]) h 3 lX,wI (l:=[z0,z1,z2,z3,z4,z5,z6,z7,z8,z9,ad]) h 4 lX,wI (l:=[z0,z1,z2,z3,z4,z5,z6,z7,z8,z9,ad]) h 5 lX,wI (l:=[z0,z1,z2,z3,z4,z5,z6,z7,z8,z9,ad]) h 6 lX,wI (l:=[z0,z1,z2,z3,z4,z5,z6,z7,z8,z9,ad]) h 7 lX,wI (l:=[z0,z1,z2,z3,z4,z5,z6,z7,z8,z9,ad]) h 8 lX,wI (l:=[z0,z1,z2,z3,z4,z5,z6,z7,z8,z9,ad]) h 9 lX,wI (l:=[z0,z1,z2,z3,z4,z5,z6,z7,z8,z9,ad]) h 10 lX⟩
def JE(h:W.1[b]?=Vv (Sx #[z0,z1,z2,z3,z4,z5,z6,z7,z8,z9,ad] t (0,0)))(x0 x1 x2 x3 x4 x5 x6 x7 x8 x9 a5:zY)(e:V=(AF (AF (AF (AF (AF (AF (AF (AF (AF (AF (AF W ⟨b,0,VX⟩ x0) ⟨b,1,VX⟩ x1) ⟨b,2,VX⟩ x2) ⟨b,3,VX⟩ x3) ⟨b,4,VX⟩ x4) ⟨b,5,VX⟩ x5) ⟨b,6,VX⟩ x6) ⟨b,7,VX⟩ x7) ⟨b,8,VX⟩ x8) ⟨b,9,VX⟩ x9) ⟨b,10,VX⟩ a5)):(∀(n:Nat) (w:H7),n<=b->Below n w W->Below n w V)/\V.1[b]?=Vv (Sx #[x0,x1,x2,x3,x4,x5,x6,x7,x8,x9,a5] t (0,0))/\∀k,k≠b->V.1[k]?=W.1[k]?:=by
 subst e;have hs:∀(n:Nat) (w V:H7) (o:Nat) (z:zY),n<=b->Below n w V->Below n w (V.setCell ⟨b,o,VX⟩ z):=fun n w V o z hn q=>q.setCell (p:=⟨b,o,VX⟩) hn z;have k0:(AF W ⟨b,0,VX⟩ x0).1[b]?=Vv (Sx #[x0,z1,z2,z3,z4,z5,z6,z7,z8,z9,ad] t (0,0)):=block_setCell (i:=0) x0 h;have k1:(AF (AF W ⟨b,0,VX⟩ x0) ⟨b,1,VX⟩ x1).1[b]?=Vv (Sx #[x0,x1,z2,z3,z4,z5,z6,z7,z8,z9,ad] t (0,0)):=block_setCell (i:=1) x1 k0;have k2:(AF (AF (AF W ⟨b,0,VX⟩ x0) ⟨b,1,VX⟩ x1) ⟨b,2,VX⟩ x2).1[b]?=Vv (Sx #[x0,x1,x2,z3,z4,z5,z6,z7,z8,z9,ad] t (0,0)):=block_setCell (i:=2) x2 k1;have k3:(AF (AF (AF (AF W ⟨b,0,VX⟩ x0) ⟨b,1,VX⟩ x1) ⟨b,2,VX⟩ x2) ⟨b,3,VX⟩ x3).1[b]?=Vv (Sx #[x0,x1,x2,x3,z4,z5,z6,z7,z8,z9,ad] t (0,0)):=block_setCell (i:=3) x3 k2;have k4:(AF (AF (AF (AF (AF W ⟨b,0,VX⟩ x0) ⟨b,1,VX⟩ x1) ⟨b,2,VX⟩ x2) ⟨b,3,VX⟩ x3) ⟨b,4,VX⟩ x4).1[b]?=Vv (Sx #[x0,x1,x2,x3,x4,z5,z6,z7,z8,z9,ad] t (0,0)):=block_setCell (i:=4) x4 k3;have k5:(AF (AF (AF (AF (AF (AF W ⟨b,0,VX⟩ x0) ⟨b,1,VX⟩ x1) ⟨b,2,VX⟩ x2) ⟨b,3,VX⟩ x3) ⟨b,4,VX⟩ x4) ⟨b,5,VX⟩ x5).1[b]?=Vv (Sx #[x0,x1,x2,x3,x4,x5,z6,z7,z8,z9,ad] t (0,0)):=block_setCell (i:=5) x5 k4;have k6:(AF (AF (AF (AF (AF (AF (AF W ⟨b,0,VX⟩ x0) ⟨b,1,VX⟩ x1) ⟨b,2,VX⟩ x2) ⟨b,3,VX⟩ x3) ⟨b,4,VX⟩ x4) ⟨b,5,VX⟩ x5) ⟨b,6,VX⟩ x6).1[b]?=Vv (Sx #[x0,x1,x2,x3,x4,x5,x6,z7,z8,z9,ad] t (0,0)):=block_setCell (i:=6) x6 k5;have k7:(AF (AF (AF (AF (AF (AF (AF (AF W ⟨b,0,VX⟩ x0) ⟨b,1,VX⟩ x1) ⟨b,2,VX⟩ x2) ⟨b,3,VX⟩ x3) ⟨b,4,VX⟩ x4) ⟨b,5,VX⟩ x5) ⟨b,6,VX⟩ x6) ⟨b,7,VX⟩ x7).1[b]?=Vv (Sx #[x0,x1,x2,x3,x4,x5,x6,x7,z8,z9,ad] t (0,0)):=block_setCell (i:=7) x7 k6;have k8:(AF (AF (AF (AF (AF (AF (AF (AF (AF W ⟨b,0,VX⟩ x0) ⟨b,1,VX⟩ x1) ⟨b,2,VX⟩ x2) ⟨b,3,VX⟩ x3) ⟨b,4,VX⟩ x4) ⟨b,5,VX⟩ x5) ⟨b,6,VX⟩ x6) ⟨b,7,VX⟩ x7) ⟨b,8,VX⟩ x8).1[b]?=Vv (Sx #[x0,x1,x2,x3,x4,x5,x6,x7,x8,z9,ad] t (0,0)):=block_setCell (i:=8) x8 k7;have k9:(AF (AF (AF (AF (AF (AF (AF (AF (AF (AF W ⟨b,0,VX⟩ x0) ⟨b,1,VX⟩ x1) ⟨b,2,VX⟩ x2) ⟨b,3,VX⟩ x3) ⟨b,4,VX⟩ x4) ⟨b,5,VX⟩ x5) ⟨b,6,VX⟩ x6) ⟨b,7,VX⟩ x7) ⟨b,8,VX⟩ x8) ⟨b,9,VX⟩ x9).1[b]?=Vv (Sx #[x0,x1,x2,x3,x4,x5,x6,x7,x8,x9,ad] t (0,0)):=block_setCell (i:=9) x9 k8;have a7:(AF (AF (AF (AF (AF (AF (AF (AF (AF (AF (AF W ⟨b,0,VX⟩ x0) ⟨b,1,VX⟩ x1) ⟨b,2,VX⟩ x2) ⟨b,3,VX⟩ x3) ⟨b,4,VX⟩ x4) ⟨b,5,VX⟩ x5) ⟨b,6,VX⟩ x6) ⟨b,7,VX⟩ x7) ⟨b,8,VX⟩ x8) ⟨b,9,VX⟩ x9) ⟨b,10,VX⟩ a5).1[b]?=Vv (Sx #[x0,x1,x2,x3,x4,x5,x6,x7,x8,x9,a5] t (0,0)):=block_setCell (i:=10) a5 k9;exact⟨fun n w hn q=>(hs n w _ _ _ hn (hs n w _ _ _ hn (hs n w _ _ _ hn (hs n w _ _ _ hn (hs n w _ _ _ hn (hs n w _ _ _ hn (hs n w _ _ _ hn (hs n w _ _ _ hn (hs n w _ _ _ hn (hs n w _ _ _ hn (hs n w _ _ _ hn q))))))))))),a7,fun k hk=>by rw[bw _ _ _ _ hk,bw _ _ _ _ hk,bw _ _ _ _ hk,bw _ _ _ _ hk,bw _ _ _ _ hk,bw _ _ _ _ hk,bw _ _ _ _ hk,bw _ _ _ _ hk,bw _ _ _ _ hk,bw _ _ _ _ hk,bw _ _ _ _ hk]⟩
def I6(h:W.1[b]?=Vv (Sx #[c0,c1,c2,c3,c4,c5] t z)):(∀q:fo,(ext W q).cell? b=Vv c0)/\(∀q:fo,(ext W q).cell? (XM b 1)=Vv c1)/\(∀q:fo,(ext W q).cell? (XM b 2)=Vv c2)/\(∀q:fo,(ext W q).cell? (XM b 3)=Vv c3)/\(∀q:fo,(ext W q).cell? (XM b 4)=Vv c4)/\(∀q:fo,(ext W q).cell? (XM b 5)=Vv c5) :=
 have f:=fun i x hx=>aG (aq h) (wI (l:=[c0,c1,c2,c3,c4,c5]) h i (z:=x) hx)
 ⟨f 0 _ lX,f 1 _ lX,f 2 _ lX,f 3 _ lX,f 4 _ lX,f 5 _ lX⟩
def Hr(h:W.1[b]?=Vv (Sx #[c0,c1,c2,c3,c4,c5,c6,c7,c8] t z)):(∀q:fo,(ext W q).cell? b=Vv c0)/\(∀q:fo,(ext W q).cell? (XM b 1)=Vv c1)/\(∀q:fo,(ext W q).cell? (XM b 2)=Vv c2)/\(∀q:fo,(ext W q).cell? (XM b 3)=Vv c3)/\(∀q:fo,(ext W q).cell? (XM b 4)=Vv c4)/\(∀q:fo,(ext W q).cell? (XM b 5)=Vv c5)/\(∀q:fo,(ext W q).cell? (XM b 6)=Vv c6)/\(∀q:fo,(ext W q).cell? (XM b 7)=Vv c7)/\(∀q:fo,(ext W q).cell? (XM b 8)=Vv c8) :=
 have f:=fun i x hx=>aG (aq h) (wI (l:=[c0,c1,c2,c3,c4,c5,c6,c7,c8]) h i (z:=x) hx)
 ⟨f 0 _ lX,f 1 _ lX,f 2 _ lX,f 3 _ lX,f 4 _ lX,f 5 _ lX,f 6 _ lX,f 7 _ lX,f 8 _ lX⟩
def K7(h:W.1[b]?=Vv (Sx #[c0,c1,c2,c3,c4,c5,c6,c7,c8,c9,c10] t z)):(∀q:fo,(ext W q).cell? b=Vv c0)/\(∀q:fo,(ext W q).cell? (XM b 1)=Vv c1)/\(∀q:fo,(ext W q).cell? (XM b 2)=Vv c2)/\(∀q:fo,(ext W q).cell? (XM b 3)=Vv c3)/\(∀q:fo,(ext W q).cell? (XM b 4)=Vv c4)/\(∀q:fo,(ext W q).cell? (XM b 5)=Vv c5)/\(∀q:fo,(ext W q).cell? (XM b 6)=Vv c6)/\(∀q:fo,(ext W q).cell? (XM b 7)=Vv c7)/\(∀q:fo,(ext W q).cell? (XM b 8)=Vv c8)/\(∀q:fo,(ext W q).cell? (XM b 9)=Vv c9)/\(∀q:fo,(ext W q).cell? (XM b 10)=Vv c10) :=
 have f:=fun i x hx=>aG (aq h) (wI (l:=[c0,c1,c2,c3,c4,c5,c6,c7,c8,c9,c10]) h i (z:=x) hx)
 ⟨f 0 _ lX,f 1 _ lX,f 2 _ lX,f 3 _ lX,f 4 _ lX,f 5 _ lX,f 6 _ lX,f 7 _ lX,f 8 _ lX,f 9 _ lX,f 10 _ lX⟩
structure JT(g:af):Prop where
 dl:Wq g.Gb<=1000000
 dt:∀d∈g.Gb,Wq d.tags<=1000000
 vl:Wq g.F9<=1000000
 vz:∀v∈g.F9,qD v
def Zg(x0:af)(x1:iX):Tab #[By x0.name,Bm U8 x0.id,Bm Sj x0.seq,Bm Sj x0.Gd,Bm Sj x0.next,FG x1.tp (Wq x0.tags) x1.tc,FG x1.dp (Wq x0.Gb) x1.dc,FG x1.vp (Wq x0.F9) x1.vc,FG x1.hp (Wq x0.history) x1.hc]:=⟨⟩
def Tbo(h:gt:=by
 refine(nZ g a nm W (ok:=fun k=>ok k/\k<w.1.size) (dN.Gb (Rj.o W hb)) HZ.o.dl HZ.o.dt).mono ?_;rintro e w' ⟨u,rfl,hv,hb'⟩;rw[Yh]at hv;rw[N3];obtain⟨t,rfl,ht⟩:=hv;obtain⟨tp,tc,rfl,h1,h2⟩:=ht.cap;have sA:aO _ w' _ _:=⟨_,rfl,ht⟩
 exact⟨_,_,rfl,sA,hb'⟩):=h
def Tc4(h:gt:=by
 ·exact QW.o k TeM):=h
def Tc5(h:gt:=by
 exact ho.imp id (fun q=>⟨q.1,WQ⟩)):=h
def Ta2(h:gt:=by
 refine cH hQ 0 hHeld ?_;refine cH hQ 1 hHeld ?_;refine cH hQ 2 hHeld ?_;refine cH hQ 3 hHeld ?_;refine cH hQ 4 hHeld ?_;refine cH hQ 5 hHeld ?_;refine mh (i:=6) (j:=10) lX rfl rfl rfl Yp (fun K hK=>?_) (fun K hK=>?_)
 ·go_simp;refine(HC.o _ (bj _ _).drew).mono ?_;rintro e w1 ⟨tp,tc,rfl,hv1,hb1⟩;have hb1':Below w.1.size w w1:=⟨hb1.os,hb1.tape,hb1.output,hb1.size,hb1.block⟩;refine hK.o _ _ (HS.o _ hb1') ?_;clear hK K hHeld;have hHeld:=HS.o _ hb1';have Zx:=aa hv1;clear hv1 hb1;have cU:=aa hb1';clear hb1';refine cH hQ 7 hHeld ?_;refine cH hQ 8 hHeld ?_;refine cH hQ 9 hHeld ?_;refine lR 10 fun K hK=>?_;go_simp;have hb2:Below w.1.size w (w1.alloc (Sx Tal 69)):=cU.o.alloc cU.o.size _;refine hK.o _ _ (HS.o _ hb2) ?_;clear hK K hHeld;have gh:=b9 w1 (Sx Tal 69);have gO:w1.1.size<(w1.alloc (Sx Tal 69)).1.size:=by simp
  have hv2:aO (fun k=>(ok k/\k<w.1.size)\/(w.1.size<=k/\k<w1.1.size)) (w1.alloc (Sx Tal 69)) [By x.name,Bm U8 x.id,Bm Sj x.first,Bm Sj x.Gc,Ft x.closed,Ft x.missing,FG tp (Wq x.tags) tc] x:=aO.moves.mv ⟨XN,fun k hk ho=>⟨ho.imp id (fun q=>⟨q,hk⟩),cj _ _ _ hk⟩⟩ Zx.o;have mA:=cU.o.size;generalize hW2:World.alloc w1 _=W2 at *;generalize hb0:w1.1.size=b0 at *;clear hW2 hb0 Zx cU;have Vn:=aa hv2;clear hv2;obtain⟨zf,z0,z1,z2,z3,z4,z5,z6⟩:=Gq gh;obtain⟨sb,sk,so⟩:=CR gh (By x.name) (Bm U8 x.id) (Bm Sj x.first) (Bm Sj x.Gc) (Ft x.closed) (Ft x.missing) (FG tp (Wq x.tags) tc) lX;have cJ:=aa (sb _ _ mA hb2);have F2:=aa sk;have QW:=aa so;clear sb sk so gh;refine lR 11 fun K hK=>?_;go_simp;refine hK.o _ _ (HS.o _ cJ.o) ?_;clear hK K;refine lR 12 fun K hK=>?_;go_simp;refine hK.o _ _ (HS.o _ cJ.o) ?_;clear hK K;refine aP Yp lX ?_;simp only[cQ,km,cL];refine HK.o _ _ b0 _ cJ.o mA F2.o (aO.moves.mv ⟨Tdi,fun k hk ho=>⟨?_,?_⟩⟩ Vn.o)
  ·exact Tc5
  exact Tc4
 go_simp;have hb2:Below w.1.size w (w.drew.alloc (Sx Tal 69)):=((bj _ _).drew).alloc (bk _) _;refine hK.o _ _ (HS.o _ hb2) ?_;clear hK K hHeld;have hHeld:=HS.o _ hb2;refine lR 6 fun K hK=>?_;go_simp;refine(HC.o _ hb2).mono ?_;rintro e w1 ⟨tp,tc,rfl,hv1,hb1⟩;have hb1':Below w.1.size w w1:=hb2.trans (hb1.mono hb2.size);refine hK.o _ _ (HS.o _ hb1') ?_;clear hK K hHeld;have hHeld:=HS.o _ hb1';have gh:=(hb1.block _ XN).trans (b9 w.drew (Sx Tal 69));have hv2:aO (fun k=>(ok k/\k<w.1.size)\/(w.1.size<=k/\w.1.size<k)) w1 [By x.name,Bm U8 x.id,Bm Sj x.first,Bm Sj x.Gc,Ft x.closed,Ft x.missing,FG tp (Wq x.tags) tc] x:=aO.moves.mv ⟨bk _,fun k hk ho=>⟨ho.imp id (fun q=>by simp at q;omega),rfl⟩⟩ hv1;have mA:w.1.size<=w.1.size:=bk _;have gh:w1.1[w.1.size]?=Vv (Sx Tal 69 (0,0)):=gh;clear hb2;have hb2:=hb1';clear hv1 hb1 hb1';generalize w1=W2 at *;refine cH hQ 7 hHeld ?_;refine cH hQ 8 hHeld ?_;refine cH hQ 9 hHeld ?_;have Vn:=aa hv2;clear hv2;obtain⟨zf,z0,z1,z2,z3,z4,z5,z6⟩:=Gq gh;obtain⟨sb,sk,so⟩:=CR gh (By x.name) (Bm U8 x.id) (Bm Sj x.first) (Bm Sj x.Gc) (Ft x.closed) (Ft x.missing) (FG tp (Wq x.tags) tc) lX;have cJ:=aa (sb _ _ mA hb2);have F2:=aa sk;have QW:=aa so;clear sb sk so gh;refine lR 11 fun K hK=>?_;go_simp;refine hK.o _ _ (HS.o _ cJ.o) ?_;clear hK K;refine lR 12 fun K hK=>?_;go_simp;refine hK.o _ _ (HS.o _ cJ.o) ?_;clear hK K;refine aP Yp lX ?_;simp only[cQ,km,cL];refine HK.o _ _ w.1.size _ cJ.o mA F2.o (aO.moves.mv ⟨Tdi,fun k hk ho=>⟨?_,?_⟩⟩ Vn.o)
 ·exact Tc5
 exact Tc4):=h
def ON(W:H7)(b:Nat)(g:af)(a:iX):@Taa Prop (W.cell? b=Vv (By g.name)/\W.cell? (XM b 1)=Vv (Bm U8 g.id)/\W.cell? (XM b 2)=Vv (Bm Sj g.seq)/\W.cell? (XM b 3)=Vv (Bm Sj g.Gd)/\W.cell? (XM b 4)=Vv (Bm Sj g.next)/\W.cell? (XM b 5)=Vv (FG a.tp (Wq g.tags) a.tc)/\W.cell? (XM b 6)=Vv (FG a.dp (Wq g.Gb) a.dc)/\W.cell? (XM b 7)=Vv (FG a.vp (Wq g.F9) a.vc)/\W.cell? (XM b 8)=Vv (FG a.hp (Wq g.history) a.hc)):=⟨⟩
def OR(W:H7)(b:Nat)(g:af)(a:iX)(P:Prop):@Taa Prop (W.cell? b=Vv (By g.name)/\W.cell? (XM b 1)=Vv (Bm U8 g.id)/\W.cell? (XM b 2)=Vv (Bm Sj g.seq)/\W.cell? (XM b 3)=Vv (Bm Sj g.Gd)/\W.cell? (XM b 4)=Vv (Bm Sj g.next)/\W.cell? (XM b 5)=Vv (FG a.tp (Wq g.tags) a.tc)/\W.cell? (XM b 6)=Vv (FG a.dp (Wq g.Gb) a.dc)/\W.cell? (XM b 7)=Vv (FG a.vp (Wq g.F9) a.vc)/\W.cell? (XM b 8)=Vv (FG a.hp (Wq g.history) a.hc)/\P):=⟨⟩
def sM{ok:LN}(w:H7)(g:af)(a:iX)(bc sm Bx:Nat)(nm:H6)(hx:w.1[bc]?=Vv (Sx #[g.name,Bm U8 g.id,Bm Sj g.seq,Bm Sj g.Gd,Bm Sj g.next,FG a.tp (Wq g.tags) a.tc,FG a.dp (Wq g.Gb) a.dc,FG a.vp (Wq g.F9) a.vc,FG a.hp (Wq g.history) a.hc,.map (Vv sm)] 99 (0,0)))(hn:w.cell? (XM Bx 1)=Vv (By nm))(PX:Bx<w.1.size)
  (hg:dN ok w g a) (hz:JT g) {x:az}  (Yh:(bH g.Gb nm).getD gT=x) (N3:(bH g.Gb nm).isSome=Tz)
  (HK:Hid (∀(tp:IH) (tc:Nat) (b:Nat) (W':H7),Below w.1.size w W'->w.1.size<=b->W'.1[b]?=Vv (Sx (u0 x tp tc) 69 (0,0))->aO (fun k=>(ok k/\k<w.1.size)\/(w.1.size<=k/\k≠b)) W' [By x.name,Bm U8 x.id,Bm Sj x.first,Bm Sj x.Gc,Ft x.closed,Ft x.missing,FG tp (Wq x.tags) tc] x->Q .normal ⟨#[SL (Vv bc),c1,c2,c3,c4,c5,SL (Vv Bx),SL (Vv b),Ft Tz,c9,c10,ZS,ao,Sf,TO,RK,RW,Rr,SO,Se,Vj #[Tk (u0 x tp tc),Tz],SL (Vv bc),SL (Vv bc),SL (Vv bc),Tk (Zg g a),SL (Vv (XM Bx 1)),By nm,Vj #[Tk (u0 x tp tc),Tz],Tk (u0 x tp tc),Ft Tz,da,dj,dq,fs,gE,ff,fb,fa,mT,me,ph,qe,qk,mu,mw,mx,nF,pr,o4,oE,oR,oS,pe,qt,qv,rl,rm],[]⟩ W'))
  (hQ:∀c (a:Act) (d:Tmp) (v:zY) w,Q (.panic c) (a.put (Vv d) v) w->Q (.panic c) a w) :
  (Ai Tryz.f71 4).wp prog Q ⟨#[SL (Vv bc),c1,c2,c3,c4,c5,SL (Vv Bx),c7,c8,c9,c10,ZS,ao,Sf,TO,RK,RW,Rr,SO,Se,St,W0,ZD,Wg,Wr,To,UP,aE,ab,eS,da,dj,dq,fs,gE,ff,fb,fa,mT,me,ph,qe,qk,mu,mw,mx,nF,pr,o4,oE,oR,oS,pe,qt,qv,rl,rm],[]⟩ w:=by
 conv=>arg 2;whnf
 have vh:=aq hx;have hS:∀w':H7,Below w.1.size w w'->(w'.cell? (XM Bx 1)=Vv (By nm)/\ON w' bc g a):=fun w' e=>by
  have h2:=(e.block bc vh).trans hx;exact⟨(Sc e PX).trans hn,cr h2 _ _ lX,cr h2 _ _ lX,cr h2 _ _ lX,cr h2 _ _ lX,cr h2 _ _ lX,cr h2 _ _ lX,cr h2 _ _ lX,cr h2 _ _ lX,cr h2 _ _ lX⟩
 have HS:=aa hS;clear hS;have Rj:Hid (∀W:H7,Below w.1.size w W->dN (fun k=>ok k/\k<w.1.size) W g a):=aa fun W hb=>hg.mv ⟨hb.size,fun k hk ho=>⟨⟨ho,hk⟩,hb.block k hk⟩⟩;have HZ:=aa hz;clear hz hg hx hn
 have hC:∀W:H7,Below w.1.size w W->Calls prog 72 #[Tk (Zg g a),By nm] W fun e w'=>∃(tp:IH) (tc:Nat),e=S6 (Vj #[Tk (u0 x tp tc),Tz])/\aO (fun k=>(ok k/\k<w.1.size)\/W.1.size<=k) w' [By x.name,Bm U8 x.id,Bm Sj x.first,Bm Sj x.Gc,Ft x.closed,Ft x.missing,FG tp (Wq x.tags) tc] x/\Below W.1.size W w':=fun W hb=>by
  exact Tbo
 have HC:=aa hC;clear hC Yh N3;refine gW (fun w'=>w'.cell? (XM Bx 1)=Vv (By nm)/\ON w' bc g a) 13 [] Yp (HS.o _ (bj _ _).drew) (fun hHeld=>?_);exact Ta2
def jw(g:af)(s:aB):Bool:=s.Ga.all (fun r=>r.vol||(bH g.Gb r.on).isSome)&&(dD s VR).all (fun nm=>(aM g.F9 nm).isSome)
def oL(s:aB)(pool:Bool)(h:Wq s.Ga<=1000000):(dD s pool).length<=1000002:=by
 unfold dD;have:=tk (·.vol) s.Ga;rw[cD,cD,fW];cases s.log.toList.isEmpty<;>cases (pool&&s.kind==6)<;>simp<;>omega
def bX(w:H7)(bc sm:Nat)(g:af)(a:iX):Prop:=w.1[bc]?=Vv (Sx #[g.name,Bm U8 g.id,Bm Sj g.seq,Bm Sj g.Gd,Bm Sj g.next,FG a.tp (Wq g.tags) a.tc,FG a.dp (Wq g.Gb) a.dc,FG a.vp (Wq g.F9) a.vc,FG a.hp (Wq g.history) a.hc,.map (Vv sm)] 99 (0,0))
def bX.cells{bc sm:Nat}{g:af}{a:iX}(h:bX w bc sm g a):w.cell? bc=Vv (By g.name)/\w.cell? (XM bc 1)=Vv (Bm U8 g.id)/\w.cell? (XM bc 2)=Vv (Bm Sj g.seq)/\w.cell? (XM bc 3)=Vv (Bm Sj g.Gd)/\w.cell? (XM bc 4)=Vv (Bm Sj g.next) /\
  w.cell? (XM bc 5)=Vv (FG a.tp (Wq g.tags) a.tc)/\w.cell? (XM bc 6)=Vv (FG a.dp (Wq g.Gb) a.dc)/\w.cell? (XM bc 7)=Vv (FG a.vp (Wq g.F9) a.vc)/\w.cell? (XM bc 8)=Vv (FG a.hp (Wq g.history) a.hc):=by
 have h:w.1[bc]?=_:=h;exact⟨cr h _ _ lX,cr h _ _ lX,cr h _ _ lX,cr h _ _ lX,cr h _ _ lX,cr h _ _ lX,cr h _ _ lX,cr h _ _ lX,cr h _ _ lX⟩
def dM(vn:H6)(vd:wy UInt8)(on:H6):Bool:=pV on ⟨(iK vn.data.toList vd).1.toArray⟩ (iK vn.data.toList vd).2
structure VS(ok:LN)(w:H7)(bv bs:Nat)(v:ay)(s:aB):Prop where
 bx:∃u,w.heap[bv]?=Vv (Sx u.toArray 46 (0,0))/\aN ok w u v
 sx:∃u,w.heap[bs]?=Vv (Sx u.toArray 55 (0,0))/\bC ok w u s
def qC{ok:LN}(Vy:Bool)(v:ay)(s:aB)(k:Nat)(n:Int)(r:aR)(bv bs:Nat)(w:H7)(h:VS ok w bv bs v s)(hr:s.Ga[k]?=Vv r)(hS:AW w)(hvn:v.name.size<=1000000000):Calls prog 127 #[Bm Sj k,if Vy then .func (.func 129) #[] #[] else .func (.func 130) #[] #[],Bm Sj n,SL (Vv bv),SL (Vv bs)] w fun e w'=>e=S6 (Ft (dM v.name (if Vy then jb n else dH n) r.on))/\Below w.1.size w w':=by
 obtain⟨⟨u1,a5,a8⟩,⟨u2,hb2,a9⟩⟩:=h;obtain⟨tv,sv,rfl,_,_⟩:=a8;obtain⟨av,Rn,rfl,o0,_⟩:=a9;obtain⟨ap,ac,rfl,ab,ae⟩:=o0.cap;have c0:=cr a5 0 _ lX;have gO:=aq hb2;have af:k<Wq s.Ga:=(AT.1 hr).1;obtain⟨b,off,us,rfl,_,cX,ez,eE,a7⟩:=o0.elem hr;obtain rfl:us=_:=eE;have hq:=a7 1 _ lX;have HQ:=aa hq;have cm:=aa hb2;have HS:=aa hS;have hn2:v.name.data.toList.length<=1000000000:=by simpa using hvn
 clear a5 hb2 o0 hr a7 ez hS;cases Vy with
 |true =>
  have HC:=aa (Ea v.name.data.toList n w hn2 HS.o);rw[<- bytes_eta]at HC;simp only[ej];go_enter func127,ntmps127
  go_wp2_with fail;refine HC.o.mono ?_;rintro e w1 ⟨rfl,a5⟩;have cU:=aa a5;have h3:w1.cell? (XM bs 3)=Vv (FG (Vv (b,off)) (Wq s.Ga) ac):=(Sc a5 gO).trans (by simp[AN,cm.o]);have q1:=(Sc a5 cX).trans HQ.o;clear a5;go_wp2_with fail;refine(mJ).mono ?_;rintro e w2 ⟨rfl,rfl⟩;go_wp2;go_ret;exact⟨rfl,cU.o⟩
 |false =>
  have HC:=aa (wC v.name.data.toList n w hn2 HS.o);rw[<- bytes_eta]at HC;simp only[pj,fY];go_enter func127,ntmps127
  go_wp2_with fail;refine HC.o.mono ?_;rintro e w1 ⟨rfl,a5⟩;have cU:=aa a5;have h3:w1.cell? (XM bs 3)=Vv (FG (Vv (b,off)) (Wq s.Ga) ac):=(Sc a5 gO).trans (by simp[AN,cm.o]);have q1:=(Sc a5 cX).trans HQ.o;clear a5;go_wp2_with fail;refine(mJ).mono ?_;rintro e w2 ⟨rfl,rfl⟩;go_wp2;go_ret;exact⟨rfl,cU.o⟩
def rR{ok:LN}(v:ay)(s:aB)(k:Nat)(n:Int)(r:aR)(h:VS ok w bv bs v s)(hr:s.Ga[k]?=Vv r)(hS:AW w)(hvn:v.name.size<=1000000000):Calls prog 127 #[Bm Sj k,.func (.func 129) #[] #[],Bm Sj n,SL (Vv bv),SL (Vv bs)] w fun e w'=>e=S6 (Ft (dM v.name (jb n) r.on))/\Below w.1.size w w' :=
 qC VR v s k n r bv bs w h hr hS hvn
def kg{ok:LN}(v:ay)(s:aB)(k:Nat)(n:Int)(r:aR)(h:VS ok w bv bs v s)(hr:s.Ga[k]?=Vv r)(hS:AW w)(hvn:v.name.size<=1000000000):Calls prog 127 #[Bm Sj k,.func (.func 130) #[] #[],Bm Sj n,SL (Vv bv),SL (Vv bs)] w fun e w'=>e=S6 (Ft (dM v.name (dH n) r.on))/\Below w.1.size w w' :=
 qC VN v s k n r bv bs w h hr hS hvn
def vU(v:ay)(s:aB):Bool:=(FF (Wq s.Ga)).all fun k=>dM v.name (jb k) ((s.Ga.map (·.on)).getD k ⟨#[]⟩)
def jS(v:ay)(s:aB):Bool :=
 if s.kind=3\/s.kind=4 then vU v s&&(s.log.toList.isEmpty||dM v.name (dH 1) s.log)
 else if s.kind=5 then dM v.name (dH 3) ((s.Ga.map (·.on)).getD 0 ⟨#[]⟩)&&dM v.name (dH 2) ((s.Ga.map (·.on)).getD 1 ⟨#[]⟩)
 else if s.kind=7 then dM v.name (jb 0) ((s.Ga.map (·.on)).getD 0 ⟨#[]⟩)&&dM v.name (dH 2) ((s.Ga.map (·.on)).getD 1 ⟨#[]⟩)&&dM v.name (dH 3) ((s.Ga.map (·.on)).getD 2 ⟨#[]⟩)
 else VR
def uD{r:aR}(h:l[k]?=Vv r):(l.map (·.on)).getD k ⟨#[]⟩=r.on:=by simp[h]
def VS.below{ok:LN}(h:VS ok w bv bs v s)(hb:Below w.1.size w w'):VS ok w' bv bs v s:=by
 obtain⟨⟨u1,a5,a7⟩,⟨u2,hb2,a8⟩⟩:=h;exact⟨⟨u1,(hb.block _ (aq a5)).trans a5,aN.moves.mv (Mv.of hb) a7⟩,⟨u2,(hb.block _ (aq hb2)).trans hb2,bC.moves.mv (Mv.of hb) a8⟩⟩
def pI{ok:LN}(w:H7)(g:af)(a:iX)(bc sm Bx:Nat)(nm:H6)(Bc:Nat)(Hh:Bc<w.1.size)(a5:w.cell? Bc=Vv (SL (Vv bc)))(hx:w.1[bc]?=Vv (Sx #[g.name,Bm U8 g.id,Bm Sj g.seq,Bm Sj g.Gd,Bm Sj g.next,FG a.tp (Wq g.tags) a.tc,FG a.dp (Wq g.Gb) a.dc,FG a.vp (Wq g.F9) a.vc,FG a.hp (Wq g.history) a.hc,.map (Vv sm)] 99 (0,0)))(hn:w.cell? (XM Bx 1)=Vv (By nm))(PX:Bx<w.1.size)
  (hg:dN ok w g a) (hz:JT g) {x:az}  (Yh:(bH g.Gb nm).getD gT=x) (N3:(bH g.Gb nm).isSome=Tz)
  (HK:Hid (∀(tp:IH) (tc:Nat) (b:Nat) (W':H7),Below w.1.size w W'->w.1.size<=b->W'.1[b]?=Vv (Sx (u0 x tp tc) 69 (0,0))->aO (fun k=>(ok k/\k<w.1.size)\/(w.1.size<=k/\k≠b)) W' [By x.name,Bm U8 x.id,Bm Sj x.first,Bm Sj x.Gc,Ft x.closed,Ft x.missing,FG tp (Wq x.tags) tc] x->Q .normal ⟨#[c0,c1,SL (Vv Bc),c3,c4,c5,c6,SL (Vv Bx),SL (Vv b),Ft Tz,c10,ZS,ao,Sf,TO,RK,RW,Rr,SO,Se,St,W0,ZD,Wg,Wr,To,UP,Vj #[Tk (u0 x tp tc),Tz],SL (Vv bc),SL (Vv bc),SL (Vv bc),Tk (Zg g a),SL (Vv (XM Bx 1)),By nm,Vj #[Tk (u0 x tp tc),Tz],Tk (u0 x tp tc),Ft Tz,fa,mT,me,ph,qe,qk,mu,mw,mx,nF,pr,o4,oE,oR,oS,pe,qt,qv,rl,rm,sE,sa,sd,yk,zd,zp,am,an,ax,aL,b7,b8,ba,cl,cn,co,cp,cu,cv,cw,cy,cB,d4,be,bf,bn,bo,bp,bq,br,bt,bu,bA,bB,bL,bN,bV,ca,cb,cc,ce,cf,ci,lE,lP,gn,iS,im,ka,kc,ke],[]⟩ W'))
  (hQ:∀c (a:Act) (d:Tmp) (v:zY) w,Q (.panic c) (a.put (Vv d) v) w->Q (.panic c) a w) :
  (Ai Tryz.f70 6).wp prog Q ⟨#[c0,c1,SL (Vv Bc),c3,c4,c5,c6,SL (Vv Bx),c8,c9,c10,ZS,ao,Sf,TO,RK,RW,Rr,SO,Se,St,W0,ZD,Wg,Wr,To,UP,aE,ab,eS,da,dj,dq,fs,gE,ff,fb,fa,mT,me,ph,qe,qk,mu,mw,mx,nF,pr,o4,oE,oR,oS,pe,qt,qv,rl,rm,sE,sa,sd,yk,zd,zp,am,an,ax,aL,b7,b8,ba,cl,cn,co,cp,cu,cv,cw,cy,cB,d4,be,bf,bn,bo,bp,bq,br,bt,bu,bA,bB,bL,bN,bV,ca,cb,cc,ce,cf,ci,lE,lP,gn,iS,im,ka,kc,ke],[]⟩ w:=by
 conv=>arg 2;whnf
 have vh:=aq hx;have hS:∀w':H7,Below w.1.size w w'->(w'.cell? (XM Bx 1)=Vv (By nm)/\OR w' bc g a (w'.cell? Bc=Vv (SL (Vv bc)))):=fun w' e=>by
  have h2:=(e.block bc vh).trans hx;exact⟨(Sc e PX).trans hn,cr h2 _ _ lX,cr h2 _ _ lX,cr h2 _ _ lX,cr h2 _ _ lX,cr h2 _ _ lX,cr h2 _ _ lX,cr h2 _ _ lX,cr h2 _ _ lX,cr h2 _ _ lX,(e.cell (p:=Bc) Hh).trans a5⟩
 have HS:=aa hS;clear hS;have Rj:Hid (∀W:H7,Below w.1.size w W->dN (fun k=>ok k/\k<w.1.size) W g a):=aa fun W hb=>hg.mv ⟨hb.size,fun k hk ho=>⟨⟨ho,hk⟩,hb.block k hk⟩⟩;have HZ:=aa hz;clear hz hg hx hn a5
 have hC:∀W:H7,Below w.1.size w W->Calls prog 72 #[Tk (Zg g a),By nm] W fun e w'=>∃(tp:IH) (tc:Nat),e=S6 (Vj #[Tk (u0 x tp tc),Tz])/\aO (fun k=>(ok k/\k<w.1.size)\/W.1.size<=k) w' [By x.name,Bm U8 x.id,Bm Sj x.first,Bm Sj x.Gc,Ft x.closed,Ft x.missing,FG tp (Wq x.tags) tc] x/\Below W.1.size W w':=fun W hb=>by
  exact Tbo
 have HC:=aa hC;clear hC Yh N3;refine gW (fun w'=>w'.cell? (XM Bx 1)=Vv (By nm)/\OR w' bc g a (w'.cell? Bc=Vv (SL (Vv bc)))) 13 [] Yp (HS.o _ (bj _ _).drew) (fun hHeld=>?_);exact Ta2
theorem oG{ok:LN}(w:H7)(g:af)(a:iX)(bc sm:Nat)(nm:H6)(Bc:Nat)(Hh:Bc<w.1.size)(ag:w.cell? Bc=Vv (SL (Vv bc)))(hx:w.1[bc]?=Vv (Sx #[g.name,Bm U8 g.id,Bm Sj g.seq,Bm Sj g.Gd,Bm Sj g.next,FG a.tp (Wq g.tags) a.tc,FG a.dp (Wq g.Gb) a.dc,FG a.vp (Wq g.F9) a.vc,FG a.hp (Wq g.history) a.hc,.map (Vv sm)] 99 (0,0)))(hn:w.cell? (XM Bx 7)=Vv (By nm))(PX:Bx<w.1.size)
  (hg:dN ok w g a) (hz:JT g) {x:ay}  (Yh:(aM g.F9 nm).getD eY=x) (N3:(aM g.F9 nm).isSome=Tz)
  (HK:Hid (∀(tp:IH) (tc:Nat) (sp:IH) (sc:Nat) (b:Nat) (W':H7),Below w.1.size w W'->w.1.size<=b->W'.1[b]?=Vv (Sx (ZM x tp tc sp sc) 46 (0,0))->aN (fun k=>(ok k/\k<w.1.size)\/(w.1.size<=k/\k≠b)) W' [By x.name,Bm U8 x.id,Ft x.hidden,Ft x.ro,FG tp (Wq x.tags) tc,FG sp (Wq x.Gf) sc] x->Q .normal ⟨#[c0,c1,SL (Vv Bc),c3,SL (Vv Bx),c5,c6,c7,c8,c9,SL (Vv b),Ft Tz,ao,Sf,TO,RK,RW,Rr,SO,Se,St,W0,ZD,Wg,Wr,To,UP,aE,ab,eS,da,dj,dq,fs,gE,ff,fb,fa,mT,me,ph,qe,qk,mu,mw,mx,nF,pr,o4,oE,oR,oS,pe,qt,qv,rl,rm,sE,sa,sd,yk,zd,zp,am,an,ax,aL,b7,b8,ba,Vj #[Tk (ZM x tp tc sp sc),Tz],SL (Vv bc),SL (Vv bc),SL (Vv bc),Tk (Zg g a),SL (Vv (XM Bx 7)),By nm,Vj #[Tk (ZM x tp tc sp sc),Tz],Tk (ZM x tp tc sp sc),Ft Tz,be,bf,bn,bo,bp,bq,br,bt,bu,bA,bB,bL,bN,bV,ca,cb,cc,ce,cf,ci,lE,lP,gn,iS,im,ka,kc,ke],[]⟩ W'))
  (hQ:∀c (a:Act) (d:Tmp) (v:zY) w,Q (.panic c) (a.put (Vv d) v) w->Q (.panic c) a w) :
  (Ai Tryz.f70 13).wp prog Q ⟨#[c0,c1,SL (Vv Bc),c3,SL (Vv Bx),c5,c6,c7,c8,c9,c10,ZS,ao,Sf,TO,RK,RW,Rr,SO,Se,St,W0,ZD,Wg,Wr,To,UP,aE,ab,eS,da,dj,dq,fs,gE,ff,fb,fa,mT,me,ph,qe,qk,mu,mw,mx,nF,pr,o4,oE,oR,oS,pe,qt,qv,rl,rm,sE,sa,sd,yk,zd,zp,am,an,ax,aL,b7,b8,ba,cl,cn,co,cp,cu,cv,cw,cy,cB,d4,be,bf,bn,bo,bp,bq,br,bt,bu,bA,bB,bL,bN,bV,ca,cb,cc,ce,cf,ci,lE,lP,gn,iS,im,ka,kc,ke],[]⟩ w:=by
 conv=>arg 2;whnf
 have vh:=aq hx;have hS:∀w':H7,Below w.1.size w w'->(w'.cell? (XM Bx 7)=Vv (By nm)/\OR w' bc g a (w'.cell? Bc=Vv (SL (Vv bc)))):=fun w' e=>by
  have h2:=(e.block bc vh).trans hx;exact⟨(Sc e PX).trans hn,cr h2 _ _ lX,cr h2 _ _ lX,cr h2 _ _ lX,cr h2 _ _ lX,cr h2 _ _ lX,cr h2 _ _ lX,cr h2 _ _ lX,cr h2 _ _ lX,cr h2 _ _ lX,(e.cell (p:=Bc) Hh).trans ag⟩
 replace hS:=aa hS;have Rj:Hid (∀W:H7,Below w.1.size w W->dN (fun k=>ok k/\k<w.1.size) W g a):=aa fun W hb=>hg.mv ⟨hb.size,fun k hk ho=>⟨⟨ho,hk⟩,hb.block k hk⟩⟩;replace hz:=aa hz;clear hg hx hn ag
 have hC:∀W:H7,Below w.1.size w W->Calls prog 75 #[Tk (Zg g a),By nm] W fun e w'=>∃(tp:IH) (tc:Nat) (sp:IH) (sc:Nat),e=S6 (Vj #[Tk (ZM x tp tc sp sc),Tz])/\aN (fun k=>(ok k/\k<w.1.size)\/W.1.size<=k) w' [By x.name,Bm U8 x.id,Ft x.hidden,Ft x.ro,FG tp (Wq x.tags) tc,FG sp (Wq x.Gf) sc] x/\Below W.1.size W w':=fun W hb=>by
  refine(fA g a nm W (ok:=fun k=>ok k/\k<w.1.size) (dN.F9 (Rj.o W hb)) hz.o.vl hz.o.vz).mono ?_;rintro e w' ⟨u,rfl,hv,ah⟩;rw[Yh]at hv;rw[N3];obtain⟨t,u,rfl,ht,hu⟩:=hv;obtain⟨tp,tc,rfl,_,_⟩:=ht.cap;obtain⟨sp,sc,rfl,_,_⟩:=hu.cap;have sA:aN _ w' _ _:=⟨_,_,rfl,ht,hu⟩;exact⟨_,_,_,_,rfl,sA,ah⟩
 replace hC:=aa hC;clear Yh N3;refine gW (fun w'=>w'.cell? (XM Bx 7)=Vv (By nm)/\OR w' bc g a (w'.cell? Bc=Vv (SL (Vv bc)))) 13 [] Yp (hS.o _ (bj _ _).drew) (fun a5=>?_);refine cH hQ 0 a5 ?_;refine cH hQ 1 a5 ?_;refine cH hQ 2 a5 ?_;refine cH hQ 3 a5 ?_;refine cH hQ 4 a5 ?_;refine cH hQ 5 a5 ?_;refine mh (i:=6) (j:=10) lX rfl rfl rfl Yp (fun K hK=>?_) (fun K hK=>?_)
 ·go_simp;refine(hC.o _ (bj _ _).drew).mono ?_;rintro e w1 ⟨tp,tc,sp,sc,rfl,a9,a8⟩;have a7:Below w.1.size w w1:=⟨a8.os,a8.tape,a8.output,a8.size,a8.block⟩;refine hK.o _ _ (hS.o _ a7) ?_;clear hK K a5;have a5:=hS.o _ a7;replace a9:=aa a9;clear a8;replace a7:=aa a7;refine cH hQ 7 a5 ?_;refine cH hQ 8 a5 ?_;refine cH hQ 9 a5 ?_;refine lR 10 fun K hK=>?_;go_simp;have hb2:Below w.1.size w (w1.alloc (Sx Tak 46)):=a7.o.alloc a7.o.size _;refine hK.o _ _ (hS.o _ hb2) ?_;clear hK K a5;have gh:=b9 w1 (Sx Tak 46);have gO:w1.1.size<(w1.alloc (Sx Tak 46)).1.size:=by simp
  have ae:aN (fun k=>(ok k/\k<w.1.size)\/(w.1.size<=k/\k<w1.1.size)) (w1.alloc (Sx Tak 46)) [By x.name,Bm U8 x.id,Ft x.hidden,Ft x.ro,FG tp (Wq x.tags) tc,FG sp (Wq x.Gf) sc] x:=aN.moves.mv ⟨XN,fun k hk ho=>⟨ho.imp id (fun q=>⟨q,hk⟩),cj _ _ _ hk⟩⟩ a9.o;have mA:=a7.o.size;generalize ai:AI w1 _=W2 at *;generalize aj:w1.1.size=b0 at *;clear ai aj a9 a7;have Vn:=aa ae;clear ae;have zf:=BO gh;obtain⟨sb,sk,so⟩:=zQ gh (By x.name) (Bm U8 x.id) (Ft x.hidden) (Ft x.ro) (FG tp (Wq x.tags) tc) (FG sp (Wq x.Gf) sc) lX;have cJ:=aa (sb _ _ mA hb2);have F2:=aa sk;have QW:=aa so;clear sb sk so gh;refine lR 11 fun K hK=>?_;go_simp;refine hK.o _ _ (hS.o _ cJ.o) ?_;clear hK K;refine lR 12 fun K hK=>?_;go_simp;refine hK.o _ _ (hS.o _ cJ.o) ?_;clear hK K;refine aP Yp lX ?_;simp only[cQ,km,cL];refine HK.o _ _ _ _ b0 _ cJ.o mA F2.o (aN.moves.mv ⟨Tdi,fun k hk ho=>⟨?_,?_⟩⟩ Vn.o)
  ·exact Tc5
  exact Tc4
 go_simp;have hb2:Below w.1.size w (w.drew.alloc (Sx Tak 46)):=((bj _ _).drew).alloc (bk _) _;refine hK.o _ _ (hS.o _ hb2) ?_;clear hK K a5;have a5:=hS.o _ hb2;refine lR 6 fun K hK=>?_;go_simp;refine(hC.o _ hb2).mono ?_;rintro e w1 ⟨tp,tc,sp,sc,rfl,a9,a8⟩;have a7:Below w.1.size w w1:=hb2.trans (a8.mono hb2.size);refine hK.o _ _ (hS.o _ a7) ?_;clear hK K a5;have a5:=hS.o _ a7;have gh:=(a8.block _ XN).trans (b9 w.drew (Sx Tak 46));have ae:aN (fun k=>(ok k/\k<w.1.size)\/(w.1.size<=k/\w.1.size<k)) w1 [By x.name,Bm U8 x.id,Ft x.hidden,Ft x.ro,FG tp (Wq x.tags) tc,FG sp (Wq x.Gf) sc] x:=aN.moves.mv ⟨bk _,fun k hk ho=>⟨ho.imp id (fun q=>by simp at q;omega),rfl⟩⟩ a9;have mA:w.1.size<=w.1.size:=bk _;have gh:w1.1[w.1.size]?=Vv (Sx Tak 46 (0,0)):=gh;clear hb2;have hb2:=a7;clear a9 a8 a7;generalize w1=W2 at *;refine cH hQ 7 a5 ?_;refine cH hQ 8 a5 ?_;refine cH hQ 9 a5 ?_;have Vn:=aa ae;clear ae;have zf:=BO gh;obtain⟨sb,sk,so⟩:=zQ gh (By x.name) (Bm U8 x.id) (Ft x.hidden) (Ft x.ro) (FG tp (Wq x.tags) tc) (FG sp (Wq x.Gf) sc) lX;have cJ:=aa (sb _ _ mA hb2);have F2:=aa sk;have QW:=aa so;clear sb sk so gh;refine lR 11 fun K hK=>?_;go_simp;refine hK.o _ _ (hS.o _ cJ.o) ?_;clear hK K;refine lR 12 fun K hK=>?_;go_simp;refine hK.o _ _ (hS.o _ cJ.o) ?_;clear hK K;refine aP Yp lX ?_;simp only[cQ,km,cL];refine HK.o _ _ _ _ w.1.size _ cJ.o mA F2.o (aN.moves.mv ⟨Tdi,fun k hk ho=>⟨?_,?_⟩⟩ Vn.o)
 ·exact Tc5
 exact Tc4
structure wM(s:aB):Prop where
 l0:1<=s.length
 l1:s.length<=32768
 ar:Wq s.Ga<=6
 p5:s.kind=5->2<=Wq s.Ga
 p7:s.kind=7->3<=Wq s.Ga
def fI(g:af)(s:aB)(r:aR):Bool:=r.vol||(V7 (0<=r.start)&&V7 (r.start<=((bH g.Gb r.on).getD gT).Gc)&&V7 (iB s.kind s.length (Wq s.Ga)<=((bH g.Gb r.on).getD gT).Gc-r.start))
def dh(g:af)(nm:H6):Bool:=eZ ((aM g.F9 nm).getD eY)==6||eZ ((aM g.F9 nm).getD eY)==5
def mM(g:af)(v:ay)(s:aB):Int :=
 if jw g s=VN then 12 else if s.Ga.all (fI g s)=VN then 1 else if jS v s=VN then 10 else if s.kind=6/\¬eZ ((aM g.F9 s.pool).getD eY)=5 then 17
 else if(dD s VN).any (dh g)=VR then 17 else 0
def zV{k l:Int}(h0:0<=l):0<=iB k l n/\iB k l n<=l:=by
 unfold iB;split
 ·exact⟨lz h0 WQ,mS _ h0⟩
 omega
def Da(h:∀d∈Gb,0<=d.Gc/\d.Gc<=1000000):0<=((bH Gb nm).getD gT).Gc/\((bH Gb nm).getD gT).Gc<=1000000:=by
 cases hf:bH Gb nm with
 |none=>simp[gT]
 |some d=>exact h d (eV hf)
def aA(F9:wy ay):wy (ay × aB):=F9.flatMap fun v=>v.Gf.map fun s=>(v,s)
def bD(E:wy (ay × aB)->ay->aB->Int):wy (ay × aB)->wy (ay × aB)->H6 × Int
 |_,[]=>(⟨#[]⟩,0)
 |pre,(v,s) :: r=>if E pre v s=0 then bD E (pre++[(v,s)]) r else(v.name,E pre v s)
def xB(F9:wy ay)(k:Nat)(v:ay)(h:F9[k]?=Vv v):aA (F9.take (k+1))=aA (F9.take k)++v.Gf.map (fun s=>(v,s)):=by
 rw[take_snoc' F9 k v h];simp[aA]
def vI(F9:wy ay)(k:Nat)(v:ay)(h:F9[k]?=Vv v)(j:Nat)(s:aB)(hs:v.Gf[j]?=Vv s) :
  aA F9=(aA (F9.take k)++(v.Gf.take j).map (fun s=>(v,s)))++(v,s) :: ((v.Gf.drop (j+1)).map (fun s=>(v,s))++aA (F9.drop (k+1))):=by
 obtain⟨hk,hv⟩:=AT.1 h;obtain⟨hj,a5⟩:=AT.1 hs;conv=>lhs;rw[<- rk k F9,tB hk,hv]
 have e:v.Gf=v.Gf.take j++s :: v.Gf.drop (j+1):=by
  conv=>lhs;rw[<- rk j v.Gf,tB hj,a5]
 unfold aA;rw[xt,lB];conv=>lhs;rw[e]
 simp
def Mv.mod{ok:LN}(hm:cR F w w')(hF:∀k,F k->¬ok k):Mv ok ok w w':=⟨hm.size,fun b hb ho=>⟨ho,hm.block b hb (fun f=>hF b f ho)⟩⟩
def fV(F9:wy ay)(k j:Nat)(v:ay):wy (ay × aB):=(v.Gf.drop j).map (fun s=>(v,s))++aA (F9.drop (k+1))
def bW(F9:wy ay)(k j:Nat)(v:ay):wy (ay × aB):=aA (F9.take k)++(v.Gf.take j).map (fun s=>(v,s))
def eQ(F9:wy ay)(k:Nat)(v:ay):bW F9 k 0 v=aA (F9.take k):=by simp[bW]
def fG(F9:wy ay)(k j:Nat)(v:ay)(s:aB)(hs:v.Gf[j]?=Vv s):bW F9 k (j+1) v=bW F9 k j v++[(v,s)]:=by
 unfold bW;rw[take_snoc' v.Gf j s hs];simp
def fJ(F9:wy ay)(k:Nat)(v:ay)(h:F9[k]?=Vv v):bW F9 k (Wq v.Gf) v=aA (F9.take (k+1)):=by
 unfold bW;rw[cI,xB F9 k v h]
def jB(F9:wy ay)(k j:Nat)(v:ay)(s:aB)(h:F9[k]?=Vv v)(hs:v.Gf[j]?=Vv s):aA F9=bW F9 k j v++(v,s) :: fV F9 k (j+1) v:=vI F9 k v h j s hs
def jZ{pre post:wy (ay × aB)}(h:aA F9=pre++(v,s) :: post):v∈F9/\s∈v.Gf:=by
 have:(v,s)∈aA F9:=by rw[h];simp
 obtain⟨v',hv,hs⟩:=BY.1 this;obtain⟨s',a5,e⟩:=As.1 hs;injection e with e1 e2;subst e1;subst e2;exact⟨hv,a5⟩
def cR.none(h:cR (fun _=>False) w w'):Below w.1.size w w':=h.below (bk _) (fun _ f=>f.elim)
structure UQ(g:af):Prop where
 sz:JT g
 de:∀d∈g.Gb,0<=d.Gc/\d.Gc<=1000000
 ext:1<=g.Gd/\g.Gd<=1024
 vn:∀v∈g.F9,v.name.size<=1000000000
 sf:∀v∈g.F9,∀s∈v.Gf,wM s
def mY(g:af):H6 × Int:=bD (fun _ v s=>mM g v s) [] (aA g.F9)
def qV(ext:Int)(n:Nat):wy aB->Int->Int
 |[],_=>0
 |s :: r,st=>if bJ ext s st=VN then 2 else if 1<n/\(oO s.kind).several=VN then 17 else qV ext n r (st+s.length)
def iM(f:ay->Int):wy ay->H6 × Int
 |[]=>(⟨#[]⟩,0)
 |v :: r=>if f v=0 then iM f r else(v.name,f v)
def DW(g:af)(v:ay):Int:=qV g.Gd (Wq v.Gf) v.Gf 0
def iP(g:af):H6 × Int:=iM (DW g) g.F9
def drop_at{l:wy α}{x:α}(h:l[k]?=Vv x):l.drop k=x :: l.drop (k+1):=by
 obtain⟨hk,rfl⟩:=AT.1 h;exact tB hk
def CP{ext:Int}{l:wy aB}(h:l[k]?=Vv s)(st:Int):qV ext n (l.drop k) st=if bJ ext s st=VN then 2 else if 1<n/\(oO s.kind).several=VN then 17 else qV ext n (l.drop (k+1)) (st+s.length):=by
 rw[drop_at h];rfl
def vw(x:eX)(w:H7):(Instr.field 124 (Tk (Tan x)) 3).run prog w=.ok (Ft x.several) w:=by kernel_rfl
def Ct(g:af):Prop:=∀v∈g.F9,∀s∈v.Gf,(Lit.int Sj s.kind).wf=VR
def cR.grown(g:w.grownBy w' (Vv b)):cR (fun k=>k=b) w w':=⟨g.os,g.tape,g.output,g.size,fun k hk hne=>g.block k hk (fun e=>hne (by injection e))⟩
def tkB(M:wy (H6 × H5))(nm:H6)(i:Nat):Bool:=M.any fun m=>V7 (m.1=nm)&&(V7 (m.2.1<=(i:Int))&&V7 ((i:Int)<m.2.1+m.2.2))
def bz(M:wy (H6 × H5))(d:az):wy Bool:=(FF d.Gc.toNat).map (tkB M d.name)
def tV(M:wy (H6 × H5))(nm:H6)(st n:Int):Bool:=(FF n.toNat).any fun j=>tkB M nm (st.toNat+j)
def nP(n:Int):wy (H6 × H5)->wy aR->Bool
 |_,[]=>VN
 |M,a :: r=>if a.vol=VR then nP n M r else if tV M a.on a.start n=VR then VR else nP n (M++[(a.on,a.start,n)]) r
def dC(n:Int)(l:wy aR):wy (H6 × H5):=(l.filter fun a=>!a.vol).map fun a=>(a.on,a.start,n)
def aX(s:aB):Int:=iB s.kind s.length (Wq s.Ga)
def lU(pre:wy (ay × aB)):wy (H6 × H5):=pre.flatMap fun p=>dC (aX p.2) p.2.Ga
def CQ(pre:wy (ay × aB))(_:ay)(s:aB):Int:=if nP (aX s) (lU pre) s.Ga=VR then 15 else 0
def IW(pre:wy (ay × aB))(_:ay)(s:aB):Int:=if s.kind=6 then(if pre.any (fun p=>V7 (p.2.kind=6)&&(V7 (p.2.pool=s.pool)&&V7 (p.2.device=s.device)))=VR then 9 else 0) else 0
def pE(g:af):H6 × Int:=if(bD CQ [] (aA g.F9)).2=0 then bD IW [] (aA g.F9) else bD CQ [] (aA g.F9)
def nO(M:wy (H6 × H5))(m:H6 × H5)(nm:H6)(i:Nat):tkB (M++[m]) nm i=(tkB M nm i||(V7 (m.1=nm)&&(V7 (m.2.1<=(i:Int))&&V7 ((i:Int)<m.2.1+m.2.2)))):=by
 unfold tkB;rw[rj];simp
def gP(M:wy (H6 × H5))(d:az):(bz M d).length=d.Gc.toNat:=by simp[bz]
def gU{M:wy (H6 × H5)}(h:i<d.Gc.toNat):(bz M d)[i]?=Vv (tkB M d.name i):=by simp[bz,h]
def lQ(M:wy (H6 × H5))(d:az){m:H6 × H5}(h:¬m.1=d.name):bz (M++[m]) d=bz M d:=by
 unfold bz;refine List.map_congr_left fun i _=>?_;rw[nO];simp[h]
def vQ(M:wy (H6 × H5))(d:az)(nm:H6)(st:Int):bz (M++[(nm,st,0)]) d=bz M d:=by
 unfold bz;refine List.map_congr_left fun i _=>?_;rw[nO]
 have:(V7 (st<=(i:Int))&&V7 ((i:Int)<st+0))=VN:=by
  rw[<- Bool.decide_and];exact cN WQ
 simp only[this,Bool.and_false,Bool.or_false]
def xH(M:wy (H6 × H5))(d:az)(st:Int)(j:Nat)(h0:0<=st):(bz (M++[(d.name,st,(j:Int))]) d).set (st.toNat+j) VR=bz (M++[(d.name,st,((j+1:Nat):Int))]) d:=by
 refine Bk fun i=>?_;rw[List.getElem?_set]
 by_cases hi:i<d.Gc.toNat
 ·rw[gU hi,gU hi,gP];rw[nO,nO];simp only[decide_true,Bool.true_and,<- Bool.decide_and];split
  ·rename_i e;subst e;rw[aw hi];have:V7 (st<=((st.toNat+j:Nat):Int)/\((st.toNat+j:Nat):Int)<st+((j+1:Nat):Int))=VR:=eA WQ;rw[this,Bool.or_true]
  rename_i e;congr 1
  have:(st<=(i:Int)/\(i:Int)<st+(j:Int))↔(st<=(i:Int)/\(i:Int)<st+((j+1:Nat):Int)):=by omega
  simp only[this]
 have h1:∀M',(bz M' d)[i]?=VX:=fun M'=>xj (by rw[gP];omega)
 rw[h1,h1,gP];split
 ·rename_i e;subst e;rw[bh hi]
 rfl
theorem D5(M:wy (H6 × H5))(d:az)(st n:Int)(h0:0<=st)(hn:0<=n)(h:st+n<=d.Gc):(((bz M d).drop st.toNat).take n.toNat).any id=tV M d.name st n:=by
 have e:((bz M d).drop st.toNat).take n.toNat=(FF n.toNat).map fun j=>tkB M d.name (st.toNat+j):=by
  refine Bk fun i=>?_;rw[xF]
  by_cases hi:i<n.toNat
  ·rw[aw hi,pk,gU WQ];simp[hi]
  rw[bh hi];exact(xj (by rw[fW,List.length_range];omega)).symm
 rw[e];unfold tV;rw[List.any_map];rfl
def xC(n:Int)(l:wy aR)(k:Nat)(a:aR)(h:l[k]?=Vv a):dC n (l.take (k+1))=if a.vol=VR then dC n (l.take k) else dC n (l.take k)++[(a.on,a.start,n)]:=by
 rw[take_snoc' l k a h];unfold dC;cases hv:a.vol<;>simp[hv]
def Ee(n:Int)(M:wy (H6 × H5)){a:aR}(h:l[k]?=Vv a):nP n M (l.drop k)=if a.vol=VR then nP n M (l.drop (k+1)) else if tV M a.on a.start n=VR then VR else nP n (M++[(a.on,a.start,n)]) (l.drop (k+1)):=by
 rw[drop_at h];rfl
def vG(L:wy (az × Nat)):zY->Option zY
 |.string s=>(L.find? fun p=>V7 (p.1.name=s)).map fun p=>FG (Vv ⟨p.2,0,VX⟩) p.1.Gc.toNat p.1.Gc.toNat
 |_=>VX
def TdN(h:gt:=by rw[e]):=h
def Av(L:wy (az × Nat))(d:az)(h:∀p∈L,¬p.1.name=d.name)(key:zY):vG (L++[(d,b)]) key=upd (vG L) (By d.name) (FG (Vv b) d.Gc.toNat d.Gc.toNat) key:=by
 by_cases hk:key=By d.name
 ·subst hk;rw[upd_same];show((L++[(d,b)]).find? fun p=>V7 (p.1.name=d.name)).map _=_;rw[tD,List.find?_eq_none.2 (fun p hp=>by simpa using h p hp)];simp
 rw[bP hk];unfold vG;split
 ·rename_i s;have:¬d.name=s:=fun e=>hk TdN;rw[tD];simp[this]
 rfl
def Dv{L:wy (az × Nat)}(h:bH (L.map (·.1)) nm=Vv d):∃b,(d,b)∈L/\d.name=nm/\vG L (By nm)=Vv (FG (Vv ⟨b,0,VX⟩) d.Gc.toNat d.Gc.toNat):=by
 unfold bH at h;rw[List.find?_map]at h;obtain⟨p,hp,rfl⟩:=Option.map_eq_some_iff.1 h;refine⟨p.2,eV hp,by simpa using List.find?_some hp,?_⟩;have e:(fun p:az × Nat=>V7 (p.1.name=nm))=((fun d:az=>V7 (d.name=nm)) ∘ fun x:az × Nat=>x.1):=rfl;show(L.find? fun p=>V7 (p.1.name=nm)).map _=_;rw[e,hp];rfl
def bI(l:QN)(x:H6):Bool:=l.any fun y=>V7 (y=x)
def ny{l:QN}:bI l x=VR↔x∈l:=by
 unfold bI;rw[nh];exact⟨fun⟨y,hy,e⟩=>by rw[<- of_decide_eq_true e];exact hy,fun h=>⟨x,h,XN⟩⟩
def zz0{l:QN}:bI l x=VN↔x ∉ l:=by
 rw[<- ny];exact Bool.eq_false_iff
def fU(l:QN)(x y:H6):bI (l++[x]) y=(bI l y||decide (x=y)):=by
 unfold bI;rw[rj];simp
def rQ(s:aB):QN:=((s.Ga.filter (·.vol)).map (·.on))++(if s.log.toList.isEmpty then [] else [s.log])++(if s.pool.toList.isEmpty then [] else [s.pool])
def kY(v:ay):QN:=v.Gf.flatMap rQ
def dU(F9:wy ay)(nm:H6):Option QN:=(aM F9 nm).map kY
inductive Reach (lk:H6->Option QN)(l0:QN):H6->Prop
 |base {x:H6}:x∈l0->(lk x).isSome=VR->Reach lk l0 x
 |step {x y:H6} {l:QN}:Reach lk l0 y->lk y=Vv l->x∈l->(lk x).isSome=VR->Reach lk l0 x
structure nX(lk:H6->Option QN)(l0 met todo:QN):Prop where
 m:∀x∈met,Reach lk l0 x
 t:∀x∈todo,(lk x).isSome=VR->Reach lk l0 x
 b:∀x∈l0,(lk x).isSome=VR->x∈met\/x∈todo
 c:∀y∈met,∀l,lk y=Vv l->∀x∈l,(lk x).isSome=VR->x∈met\/x∈todo
variable {lk:H6->Option QN}{l0 met todo:QN}
variable {x:H6}{α:Type}
def nX.start:nX lk l0 [] l0:=⟨fun _ h=>absurd h XN,fun _ h hs=>Reach.base h hs,fun _ h _=>Or.inr h,fun _ h=>absurd h XN⟩
theorem nX.done(h:nX lk l0 met [])(x:H6):x∈met↔Reach lk l0 x:=by
 refine⟨h.m x,fun r=>?_⟩;induction r with
 |base h1 h2=>exact(h.b _ h1 h2).elim id fun q=>by cases q
 |step _ h2 h3 h4 ih=>exact(h.c _ ih _ h2 _ h3 h4).elim id fun q=>by cases q
def nX.skip(h:nX lk l0 met (todo++[x]))(hx:(lk x).isSome=VN\/x∈met):nX lk l0 met todo:=by
 have key:∀y,(lk y).isSome=VR->y∈met\/y∈todo++[x]->y∈met\/y∈todo:=fun y hs q=>by
  rcases q with q|q
  ·exact .inl q
  rcases AS.1 q with q|q
  ·exact .inr q
  obtain rfl:=AM.1 q;rcases hx with e|e
  ·rw[e]at hs;cases hs
  exact .inl e
 exact⟨h.m,fun y hy=>h.t y (ju _ hy),fun y hy hs=>key y hs (h.b y hy hs),fun y hy l hl z hz hs=>key z hs (h.c y hy l hl z hz hs)⟩
def nX.more{l:QN}(h:nX lk l0 met (todo++[x]))(hx:lk x=Vv l):nX lk l0 (met++[x]) (todo++l):=by
 have hr:Reach lk l0 x:=h.t x XN (by rw[hx];rfl);have key:∀y,y∈met\/y∈todo++[x]->y∈met++[x]\/y∈todo++l:=fun y q=>by
  rcases q with q|q
  ·exact .inl (ju _ q)
  rcases AS.1 q with q|q
  ·exact .inr (ju _ q)
  exact .inl (P9 _ q)
 refine⟨fun y hy=>?_,fun y hy hs=>?_,fun y hy hs=>key y (h.b y hy hs),fun y hy k hk z hz hs=>?_⟩
 ·rcases AS.1 hy with q|q
  ·exact h.m y q
  obtain rfl:=AM.1 q;exact hr
 ·rcases AS.1 hy with q|q
  ·exact h.t y (ju _ q) hs
  exact .step hr hx q hs
 rcases AS.1 hy with q|q
 ·exact key z (h.c y q k hk z hz hs)
 obtain rfl:=AM.1 q;rw[hx]at hk;injection hk with e;subst e;exact .inr (P9 _ hz)
def nK(names:QN)(U:Nat)(met todo:QN):Nat:=(names.filter fun n=>!bI met n).length*(U+1)+todo.length
def lw(names:QN)(U:Nat)(met todo:QN)(x:H6):nK names U met todo<nK names U met (todo++[x]):=by
 unfold nK;rw[cD];simp
def kQ{p q:α->Bool}:∀ {l:wy α} {x:α},(∀y,q y=VR->p y=VR)->x∈l->p x=VR->q x=VN->(l.filter q).length<(l.filter p).length
 |[],_,_,hx,_,_=>by cases hx
 |a :: l,x,Qa,hx,hp,hq=>by
  have hle:(l.filter q).length<=(l.filter p).length:=by
   have e:l.filter q=(l.filter p).filter q:=by
    rw[List.filter_filter];refine A0 fun y _=>?_;cases h:q y<;>simp[h,Qa y]
   rw[e];exact tk ..
  by_cases e:x=a
  ·subst e;simp only[List.filter_cons,hp,hq,ej,pj,fY,cS];omega
  have a5:x∈l:=(DQ.1 hx).resolve_left e;have ih:=kQ Qa a5 hp hq;by_cases ha:q a=VR
  ·simp only[List.filter_cons,ha,Qa a ha,ej,cS];omega
  simp only[List.filter_cons,ha,fY,pj];split
  ·rw[cS];omega
  omega
def Ap(names:QN)(U:Nat)(met todo l:QN)(x:H6)(hx:x∈names)(hm:x ∉ met)(hl:l.length<=U):nK names U (met++[x]) (todo++l)<nK names U met (todo++[x]):=by
 unfold nK;have h:=kQ (p:=fun n=>!bI met n) (q:=fun n=>!bI (met++[x]) n) (l:=names) (x:=x) (fun y hy=>by rw[fU]at hy;cases h:bI met y<;>simp[h]at hy ⊢) hx (by rw[zz0.2 hm];rfl) (by rw[fU];simp);generalize (names.filter fun n=>!bI met n).length=a at *;generalize (names.filter fun n=>!bI (met++[x]) n).length=b at *;have:(b+1)*(U+1)<=a*(U+1):=tA _ h;rw[Nat.succ_mul]at this;simp only[cD,A4];omega
def BG(names met:QN):Nat:=(names.filter fun n=>!bI met n).length
def Bn(names met:QN)(x:H6)(hx:x∈names)(hm:x ∉ met):BG names (met++[x])<BG names met :=
 kQ (p:=fun n=>!bI met n) (q:=fun n=>!bI (met++[x]) n) (l:=names) (x:=x) (fun y hy=>by rw[fU]at hy;cases h:bI met y<;>simp[h]at hy ⊢) hx (by rw[zz0.2 hm];rfl) (by rw[fU];simp)
def Ae(names met:QN):BG names met<=names.length:=tk ..
def oN(met:QN):zY->Option zY
 |.string s=>if bI met s=VR then Vv (Ft VR) else VX
 |_=>VX
def xk(met:QN)(s:H6):(oN met (By s)).getD (Ft VN)=Ft (bI met s):=by
 show(if bI met s=VR then Vv (Ft VR) else VX).getD (Ft VN)=_;cases h:bI met s<;>simp
def uH(met:QN)(x:H6)(key:zY):oN (met++[x]) key=upd (oN met) (By x) (Ft VR) key:=by
 by_cases h:key=By x
 ·subst h;rw[upd_same];simp[oN,fU]
 rw[bP h];unfold oN;split
 ·rename_i s;have:¬x=s:=fun e=>h TdN;rw[fU];simp[this]
 rfl
def gD(nm:α->H6)(p:H6->Bool)(l:wy α):QN:=l.foldl (fun a5 x=>if(p (nm x)&&!bI a5 (nm x))=VR then a5++[nm x] else a5) []
def rJ(nm:α->H6)(p:H6->Bool){l:wy α}{k:Nat}{x:α}(h:l[k]?=Vv x):gD nm p (l.take (k+1))=if(p (nm x)&&!bI (gD nm p (l.take k)) (nm x))=VR then gD nm p (l.take k)++[nm x] else gD nm p (l.take k):=by
 rw[take_snoc' l k x h];unfold gD;rw[List.foldl_append];rfl
def lq(nm:α->H6)(p:H6->Bool)(l:wy α):(gD nm p l).length<=l.length:=by
 have:∀(l:wy α) (o:QN),(l.foldl (fun a5 x=>if(p (nm x)&&!bI a5 (nm x))=VR then a5++[nm x] else a5) o).length<=o.length+l.length:=by
  intro l;induction l with
  |nil=>intro o;simp
  |cons x l ih =>
   intro o;rw[cF,cS];refine cA (ih _) ?_;split
   ·rw[cD,A4];omega
   omega
 simpa[gD]using this l []
open Classical in
noncomputable def Fj(F9:wy ay)(nm x:H6):Bool:=V7 (x=nm\/Reach (dU F9) ((dU F9 nm).getD []) x)
noncomputable def mR(F9:wy ay)(nm:H6):QN:=gD ay.name (Fj F9 nm) F9
def onS(d:H6)(s:aB):Bool:=s.Ga.any fun a=>V7 (a.on=d)&&!a.vol
def XZ(F9:wy ay)(d x:H6):Bool:=((aM F9 x).getD eY).Gf.any (onS d)
noncomputable def sP(g:af)(nm:H6):QN:=gD az.name (fun d=>(mR g.F9 nm).any (XZ g.F9 d)) g.Gb
end
section
open Go.RowKit Go.Maps Go.Shelf
def XY(a b:H6):Bool:=Op.bytesLess a.toList b.toList
def kV(l:QN)(i:Nat):Bool:=mr (l.getD i ⟨#[]⟩)&&(V7 (i=0)||XY (l.getD (i-1) ⟨#[]⟩) (l.getD i ⟨#[]⟩))
def eP(l:QN):Int:=if 8<l.length then 4 else if(FF l.length).all (kV l) then 0 else 2
def TI(l:QN):Prop:=l.length<=1000000/\∀s∈l,s.size<=9223372036854775807
structure UT(g:af):Prop where
 name:g.name.size<=9223372036854775807
 tags:TI g.tags
 dl:Wq g.Gb<=1000000
 vl:Wq g.F9<=1000000
 hl:Wq g.history<=1000000
 disk:∀d∈g.Gb,d.name.size<=9223372036854775807/\TI d.tags
 vol:∀v∈g.F9,v.name.size<=9223372036854775807/\TI v.tags
 hist:∀h∈g.history,h.1.size<=9223372036854775807
def lL(h:H6 × H5):Bool:=jo h.1&&V7 (0<=h.2.2/\h.2.2<=1048575)
def lm(g:af):Prop:=0<=g.seq/\g.seq<=1048575/\1<=g.Gd/\g.Gd<=1024/\0<=g.next/\g.next<=1073741824
instance (g:af):Decidable (lm g):=by unfold lm;infer_instance
def iR(g:af):Prop:=Wq g.Gb<=8/\Wq g.F9<=32/\Wq g.history<=32
instance (g:af):Decidable (iR g):=by unfold iR;infer_instance
def qX(g:af):Int :=
 if jo g.name=VN then 10 else if ¬lm g then 1 else if ¬iR g then 4 else if eP g.tags≠0 then eP g.tags else if g.history.all lL then 0 else 2
def dZ(g:af):H6 × Int:=(⟨#[]⟩,qX g)
def ck.take{V:jx α}{ok:LN}{p:IH}{l:wy α}(h:ck V sz ok w [FG p l.length cap] l)(k:Nat)(hk:k<=l.length):ck V sz ok w [FG p k cap] (l.take k):=by
 obtain⟨p',c',e,h1,h2,h3⟩:=h;injection e with e;injection e with e1 _ e3;subst e1;subst e3;have hl:(l.take k).length=k:=by simp;omega
 refine⟨p,cap,by rw[hl],WQ,h2,fun h0=>?_⟩;obtain⟨b,off,hp,hb,ho,hc⟩:=h3 WQ;exact⟨b,off,hp,hb,ho,fun i x hx=>hc i x (by
  rw[xF]at hx;split at hx
  ·exact hx
  cases hx)⟩
def dG(d x:az):Bool:=x.name.toList==d.name.toList||x.id==d.id
def Tez(h:gt:=by rw[HM.o];rfl):=h
def vR{ok:LN}(x d:az)(Bd:Nat)(w:H7)(hu:aO ok w u x)(h0:w.cell? Bd=Vv (By d.name))(h1:w.cell? (XM Bd 1)=Vv (Bm U8 d.id))(hb:Bd<w.1.size):Calls prog 64 #[Tk u.toArray,SL (Vv Bd)] w fun e w'=>e=S6 (Ft (dG d x))/\Below w.1.size w w':=by
 obtain⟨tv,rfl,ew⟩:=hu;obtain⟨tp,tc,rfl,_,_⟩:=ew.cap;clear ew;have hA:=ae w (Sx (u0 x tp tc) 69);have HA:=aa hA;have HM:Hid (dG d x=_):=aa (dG.eq_1 d x);have d0:=(hA.cell (p:=Bd) hb).trans h0;have d1:=(Sc hA hb).trans h1;clear hA h0 h1;cases hn:x.name.toList==d.name.toList with
 |true =>
  rw[hn]at HM;go_enter func64,ntmps64;go_wp2;go_ret;exact⟨ah Tez,HA.o⟩
 |false =>
  rw[hn]at HM;go_enter func64,ntmps64;go_wp2;go_ret;exact⟨ah Tez,HA.o⟩
def Tcc(h:gt:=by
 ·obtain rfl:k=l.length:=by omega
  rw[cI]at cE;go_wp2;go_ret;exact⟨⟨-1,rfl,by rw[cE.o];rfl⟩,hB⟩):=h
def TeG(h:gt:=by rw[take_snoc' l k x hx,rj,cE.o];simp):=h
def sF{ok:LN}(l:wy az)(d:az)(p:IH)(cap Bd:Nat)(w:H7)(hr:ck aO 7 ok w [FG p l.length cap] l)(hl:l.length<=1000000)(h0:w.cell? Bd=Vv (By d.name))(h1:w.cell? (XM Bd 1)=Vv (Bm U8 d.id))(hb:Bd<w.1.size):Calls prog 120 #[FG p l.length cap,.func (.func 64) #[] #[Bd]] w
   fun e w'=>(∃r:Int,e=S6 (Bm Sj r)/\V7 (0<=r)=l.any (dG d))/\Below w.1.size w w':=by
 obtain⟨p',c',e,a8,a9⟩:=hr.cap;injection e with e1 _ e3;subst e1;subst e3;replace hr:=aa hr;replace h0:=aa h0;replace h1:=aa h1;go_enter func120,ntmps120;go_wp2
 go_loopw[8,5] (fun i _ wr=>∃k:Nat,k<=l.length/\i=Bm Sj k/\Below w.1.size w wr/\(l.take k).any (dG d)=VN) (fun i _ _=>l.length-(intOf i).toNat)
 exact⟨0,cg _,rfl,bj _ _,rfl⟩;obtain⟨k,hk,rfl,hB,hall⟩:=hrel;have cE:=aa hall;clear hall;by_cases hlt:k<l.length
 ·obtain⟨x,hx⟩:=aj l k hlt;obtain⟨b,off,us,hbo,gR,cX,ez,eE,a5⟩:=hr.o.elem hx;subst hbo;have HV:=aa eE;obtain⟨tv,rfl,ew⟩:=eE;obtain⟨tp,tc,rfl,_,_⟩:=ew.cap;clear ew;have cT:wr.1[b]?=w.1[b]?:=hB.block b cX;have q0:=sw7 cT a5;have a7:Hid ((l.take (k+1)).any (dG d)=dG d x):=aa TeG;have AE:Hid (dG d x=VR->l.any (dG d)=VR):=aa fun h=>GP.2 ⟨x,ct hx,h⟩;clear a5 ez cT hx cE;have mA:=hB.size
  go_wp2_with fail;refine(vR (ok:=ok) x d Bd wr (aO.moves.mv (Mv.of hB) HV.o) ((hB.cell hb).trans h0.o) ((hB.cell hb).trans h1.o) WQ).mono ?_;rintro e w3 ⟨rfl,hb3⟩;have cJ:=aa (hB.trans (hb3.mono hB.size));clear hb3 q0;cases hs:dG d x with
  |true =>
   have E3:=aa (AE.o hs);clear hs;go_wp2;go_ret;exact⟨⟨k,rfl,by rw[E3.o];simp⟩,cJ.o⟩
  |false =>
   have E3:=aa (a7.o.trans hs);clear hs;go_wp2;go_roundw;exact⟨k+1,WQ,Zf,cJ.o,E3.o⟩;exact Ti
 exact Tcc
def Tc2(h:gt:=by
 have HR:=aa hr2;clear hr2;have HB:=aa hb2;clear hb2;go_wp2;go_ret;exact⟨ah HR.o,HB.o⟩):=h
def TbZ(h:gt:=by
 rintro e w2 ⟨⟨r,rfl,hr2⟩,hb2⟩;exact Tc2):=h
def sN{ok:LN}(l:wy az)(d:az)(p:IH)(cap Bd:Nat)(w:H7)(hr:ck aO 7 ok w [FG p l.length cap] l)(hl:l.length<=1000000)(h0:w.cell? Bd=Vv (By d.name))(h1:w.cell? (XM Bd 1)=Vv (Bm U8 d.id))(hb:Bd<w.1.size):Calls prog 63 #[FG p l.length cap,.func (.func 64) #[] #[Bd]] w
   fun e w'=>e=S6 (Ft (l.any (dG d)))/\Below w.1.size w w':=by
 go_enter func63,ntmps63
 go_wp2_with fail;refine(sF (ok:=ok) l d p cap Bd w hr hl h0 h1 hb).mono ?_;exact TbZ
def fC(d x:ay):Bool:=x.name.toList==d.name.toList||x.id==d.id
def wh{ok:LN}(x d:ay)(Bd:Nat)(w:H7)(hu:aN ok w u x)(h0:w.cell? Bd=Vv (By d.name))(h1:w.cell? (XM Bd 1)=Vv (Bm U8 d.id))(hb:Bd<w.1.size):Calls prog 66 #[Tk u.toArray,SL (Vv Bd)] w fun e w'=>e=S6 (Ft (fC d x))/\Below w.1.size w w':=by
 obtain⟨tv,sv,rfl,ew,gA⟩:=hu;obtain⟨tp,tc,rfl,_,_⟩:=ew.cap;obtain⟨sp,sc,rfl,_,_⟩:=gA.cap;clear ew gA;have hA:=ae w (Sx (ZM x tp tc sp sc) 46);have HA:=aa hA;have HM:Hid (fC d x=_):=aa (fC.eq_1 d x);have d0:=(hA.cell (p:=Bd) hb).trans h0;have d1:=(Sc hA hb).trans h1;clear hA h0 h1;cases hn:x.name.toList==d.name.toList with
 |true =>
  rw[hn]at HM;go_enter func66,ntmps66;go_wp2;go_ret;exact⟨ah Tez,HA.o⟩
 |false =>
  rw[hn]at HM;go_enter func66,ntmps66;go_wp2;go_ret;exact⟨ah Tez,HA.o⟩
def uK{ok:LN}(l:wy ay)(d:ay)(p:IH)(cap Bd:Nat)(w:H7)(hr:ck aN 6 ok w [FG p l.length cap] l)(hl:l.length<=1000000)(h0:w.cell? Bd=Vv (By d.name))(h1:w.cell? (XM Bd 1)=Vv (Bm U8 d.id))(hb:Bd<w.1.size):Calls prog 121 #[FG p l.length cap,.func (.func 66) #[] #[Bd]] w
   fun e w'=>(∃r:Int,e=S6 (Bm Sj r)/\V7 (0<=r)=l.any (fC d))/\Below w.1.size w w':=by
 obtain⟨p',c',e,a8,a9⟩:=hr.cap;injection e with e1 _ e3;subst e1;subst e3;replace hr:=aa hr;replace h0:=aa h0;replace h1:=aa h1;go_enter func121,ntmps121;go_wp2
 go_loopw[8,5] (fun i _ wr=>∃k:Nat,k<=l.length/\i=Bm Sj k/\Below w.1.size w wr/\(l.take k).any (fC d)=VN) (fun i _ _=>l.length-(intOf i).toNat)
 exact⟨0,cg _,rfl,bj _ _,rfl⟩;obtain⟨k,hk,rfl,hB,hall⟩:=hrel;have cE:=aa hall;clear hall;by_cases hlt:k<l.length
 ·obtain⟨x,hx⟩:=aj l k hlt;obtain⟨b,off,us,hbo,gR,cX,ez,eE,a5⟩:=hr.o.elem hx;subst hbo;have HV:=aa eE;obtain⟨tv,sv,rfl,ew,gA⟩:=eE;obtain⟨tp,tc,rfl,_,_⟩:=ew.cap;obtain⟨sp,sc,rfl,_,_⟩:=gA.cap;clear ew gA;have cT:wr.1[b]?=w.1[b]?:=hB.block b cX;have q0:=sw6 cT a5;have a7:Hid ((l.take (k+1)).any (fC d)=fC d x):=aa TeG;have AE:Hid (fC d x=VR->l.any (fC d)=VR):=aa fun h=>GP.2 ⟨x,ct hx,h⟩;clear a5 ez cT hx cE;have mA:=hB.size
  go_wp2_with fail;refine(wh (ok:=ok) x d Bd wr (aN.moves.mv (Mv.of hB) HV.o) ((hB.cell hb).trans h0.o) ((hB.cell hb).trans h1.o) WQ).mono ?_;rintro e w3 ⟨rfl,hb3⟩;have cJ:=aa (hB.trans (hb3.mono hB.size));clear hb3 q0;cases hs:fC d x with
  |true =>
   have E3:=aa (AE.o hs);clear hs;go_wp2;go_ret;exact⟨⟨k,rfl,by rw[E3.o];simp⟩,cJ.o⟩
  |false =>
   have E3:=aa (a7.o.trans hs);clear hs;go_wp2;go_roundw;exact⟨k+1,WQ,Zf,cJ.o,E3.o⟩;exact Ti
 exact Tcc
def vH{ok:LN}(l:wy ay)(d:ay)(p:IH)(cap Bd:Nat)(w:H7)(hr:ck aN 6 ok w [FG p l.length cap] l)(hl:l.length<=1000000)(h0:w.cell? Bd=Vv (By d.name))(h1:w.cell? (XM Bd 1)=Vv (Bm U8 d.id))(hb:Bd<w.1.size):Calls prog 65 #[FG p l.length cap,.func (.func 66) #[] #[Bd]] w
   fun e w'=>e=S6 (Ft (l.any (fC d)))/\Below w.1.size w w':=by
 go_enter func65,ntmps65
 go_wp2_with fail;refine(uK (ok:=ok) l d p cap Bd w hr hl h0 h1 hb).mono ?_;exact TbZ
def gZ(nm:α->H6)(f:Nat->α->Int):Nat->wy α->H6 × Int
 |_,[]=>(⟨#[]⟩,0)
 |i,x :: r=>if f i x=0 then gZ nm f (i+1) r else(nm x,f i x)
def jQ(g:af)(d:az):Prop:=0<=d.first/\d.first<=65536/\0<=d.Gc/\d.Gc<=4096/\d.first+d.Gc*g.Gd<=65536
instance (g:af) (d:az):Decidable (jQ g d):=by unfold jQ;infer_instance
def pg(g:af)(i:Nat)(d:az):Int:=if jo d.name=VN then 10 else if(g.Gb.take i).any (dG d)=VR then 9 else if ¬jQ g d then 1 else eP d.tags
def dw(g:af):H6 × Int:=gZ az.name (pg g) 0 g.Gb
def nE(v:ay):Bool:=if v.hidden then zH v.name else jo v.name
def yH(g:af)(i:Nat)(v:ay):Int:=if nE v=VN then 10 else if(g.F9.take i).any (fC v)=VR then 9 else if ¬(1<=Wq v.Gf/\Wq v.Gf<=64) then 4 else eP v.tags
def dJ(g:af):H6 × Int:=gZ ay.name (yH g) 0 g.F9
def dO(g:af)(nm:H6):Int:=C8 ((aM g.F9 nm).getD eY)
def Eh:qD eY:=⟨by simp[eY],by simp[eY],by simp[eY]⟩
def Dt{g:af}(hz:JT g)(nm:H6):qD ((aM g.F9 nm).getD eY):=by
 cases h:aM g.F9 nm with
 |none=>exact Eh
 |some v=>exact hz.vz v (eV h)
def yC{ok:LN}(g:af)(a:iX)(bc Bc:Nat)(nm:H6)(w:H7)(kB:gY w bc g a)(a7:w.cell? Bc=Vv (SL (Vv bc)))(hg:dN ok w g a)(hz:JT g):Calls prog 78 #[By nm,SL (Vv Bc)] w fun e w'=>e=S6 (Bm Sj (dO g nm))/\Below w.1.size w w':=by
 have jt:=kB.lt;obtain⟨sm,ga,_⟩:=kB;have nw:Hid (bX w bc sm g a):=aa ga;clear ga;have g0:=bX.cells nw.o;replace hg:=aa hg;replace hz:=aa hz;have a8:=Dt hz.o nm;have GF:=a8.Gf;have HL:Hid (dO g nm=_):=aa (dO.eq_1 g nm);go_enter func78,ntmps78
 go_wp2_with fail;refine(fA (ok:=ok) g a nm w hg.o.F9 hz.o.vl hz.o.vz).mono ?_;rintro e w2 ⟨u,rfl,sA,hb2⟩;generalize (aM g.F9 nm).isSome=is at *;generalize (aM g.F9 nm).getD eY=x at *;have HV:=aa sA;have cm:=aa hb2;obtain⟨tv,sv,rfl,ew,gA⟩:=sA;obtain⟨tp,tc,rfl,_,_⟩:=ew.cap;obtain⟨sp,sc,rfl,_,_⟩:=gA.cap;clear ew gA hb2 g0 a7;have hA:=ae w2 (Sx (ZM x tp tc sp sc) 46);have cJ:=YS cm hA;have Ya:=aa (aN.moves.mv (Mv.of hA) HV.o);have hBx:=b9 w2 (Sx (ZM x tp tc sp sc) 46);have xL:=cr hBx;have x0:=sv6 xL;clear hA hBx xL;go_wp2_with fail;refine(yz (ok:=fun b=>ok b\/w.1.size<=b) x Ya.o WQ).mono ?_;rintro e w4 ⟨rfl,a5⟩;have eI:=YS cJ a5;clear a5 x0;go_wp2;go_ret;exact⟨cz HL.o.symm,eI.o⟩
def aOn(s:aB)(i:Nat):H6:=((s.Ga[i]?).getD ⟨VN,⟨#[]⟩,0⟩).on
def BZ(g:af)(s:aB):Int:=(s.length*g.Gd+s.chunk-1)/s.chunk
def Fe(g:af)(s:aB):Bool:=s.log.toList.isEmpty||decide (1+(BZ g s+64-1)/64<=dO g s.log*g.Gd)
def ER(g:af)(s:aB):Bool:=V7 (s.length/((Wq s.Ga:Int)-1)*g.Gd+16<=dO g (aOn s 0)*g.Gd)
def CX(g:af)(s:aB):Bool :=
 if s.kind=3 then s.Ga.all (fun a=>dO g a.on==s.length)&&Fe g s
 else if s.kind=4 then s.Ga.all (fun a=>dO g a.on==dO g (aOn s 0))&&ER g s
 else if s.kind=5 then dO g (aOn s 1)==s.length
 else if s.kind=7 then dO g (aOn s 0)==s.length else VR
def xh(g:af)(s:aB):Int:=if CX g s then 0 else 3
structure Ah(s:aB):Prop where
 fm:wM s
 c3:s.kind=3->1<=s.chunk/\s.chunk<=1024
 a4:s.kind=4->3<=Wq s.Ga
def Cu(g:af):Prop:=∀nm,0<=dO g nm/\dO g nm<=10000000
def tN{d:Int}(h0:0<=n)(h1:n<=1000000000000)(h2:1<=d)(h3:d<=1000000):Calls prog 81 #[Bm Sj n,Bm Sj d] w fun e w'=>e=S6 (Bm Sj ((n+d-1)/d))/\Below w.1.size w w' :=
 (CV n d w h0 h1 h2 h3).mono fun _ _ ⟨h,e⟩=>⟨h,e ▸ bj _ _⟩
def qG(g:af):H6 × Int:=bD (fun _ _ s=>xh g s) [] (aA g.F9)
def Jd(w:H7)(b off:Nat)(l:wy Bool):Prop:=∀(i:Nat) (x:Bool),l[i]?=Vv x->w.cell? (b,off+i)=Vv (Ft x)
theorem sJ(l:wy Bool)(b off cap:Nat)(w:H7)(h:Jd w b off l)(hb:b<w.1.size)(hl:l.length<=1000000):Calls prog 132 #[FG (Vv (b,off)) l.length cap,Ft VR] w fun e w'=>(∃r:Int,e=S6 (Bm Sj r)/\V7 (0<=r)=l.any id)/\Below w.1.size w w':=by
 have HH:=aa h;clear h;go_enter func132,ntmps132;go_wp2
 go_loopw[8,5] (fun i _ wr=>∃k:Nat,k<=l.length/\i=Bm Sj k/\Below w.1.size w wr/\(l.take k).any id=VN) (fun i _ _=>l.length-(intOf i).toNat)
 exact⟨0,cg _,rfl,bj _ _,rfl⟩;obtain⟨k,hk,rfl,hB,hall⟩:=hrel;have cE:=aa hall;clear hall;by_cases hlt:k<l.length
 ·obtain⟨x,hx⟩:=aj l k hlt;have q0:=(Sc hB hb).trans (HH.o k x hx);have a5:Hid ((l.take (k+1)).any id=x):=aa TeG;have AE:Hid (x=VR->l.any id=VR):=aa fun h=>GP.2 ⟨x,ct hx,h⟩;clear hx cE;cases x with
  |true =>
   have E3:=aa (AE.o lX);go_wp2;go_ret;exact⟨⟨k,rfl,by rw[E3.o];simp⟩,hB⟩
  |false =>
   have E3:=aa a5.o;go_wp2;go_roundw;exact⟨k+1,WQ,Zf,hB,E3.o⟩;exact Ti
 exact Tcc
theorem oC{l:wy Bool}(b off cap:Nat)(w:H7)(h:Jd w b off l)(hb:b<w.1.size)(hl:l.length<=1000000):Calls prog 83 #[FG (Vv (b,off)) l.length cap,Ft VR] w fun e w'=>e=S6 (Ft (l.any id))/\Below w.1.size w w':=by
 go_enter func83,ntmps83
 go_wp2_with fail;refine(sJ l b off cap w h hb hl).mono ?_;exact TbZ
section
open Go Go.Maps Go.MapKept Go.ChangeMaps
variable {P:Program}{k:TypeId}{w w':H7}{b n:Nat}{f:zY->Option zY}
end
attribute [local go_sem] run_makeMap_plain
def Tdw(h:gt:=by rw[h]):=h
def zq(w:H7):Calls prog 32 #[] w fun e w'=>∃b,e=S6 (.map (Vv b))/\bi prog 3 w' b 10 eH/\Below w.1.size w w':=by
 go_enter func32,ntmps32;have h0:=bi.made prog 3 w;obtain⟨w1,r1,h1,g1,z1⟩:=h0.store pF underlying96 YR (lA (a:=1) underlying3 YR) (Tk #[Bm Sj 1,Bm Sj 1,VN,VR,Bm Sj 0,VN,VN,VN,VN,VN]);obtain⟨w2,r2,h2,g2,z2⟩:=h1.store pF underlying96 YR (lA (a:=2) underlying3 YR) (Tk #[Bm Sj 2,Bm Sj 6,VN,VR,Bm Sj 1,VN,VN,VN,VN,VN]);obtain⟨w3,r3,h3,g3,z3⟩:=h2.store pF underlying96 YR (lA (a:=3) underlying3 YR) (Tk #[Bm Sj 2,Bm Sj 6,VR,VN,Bm Sj 1024,VR,VN,VR,VN,VN]);obtain⟨w4,r4,h4,g4,z4⟩:=h3.store pF underlying96 YR (lA (a:=4) underlying3 YR) (Tk #[Bm Sj 3,Bm Sj 6,VR,VN,Bm Sj 1,VR,VN,VN,VN,VN]);obtain⟨w5,r5,h5,g5,z5⟩:=h4.store pF underlying96 YR (lA (a:=5) underlying3 YR) (Tk #[Bm Sj 2,Bm Sj 2,VR,VN,Bm Sj 64,VN,VN,VN,VN,VN]);obtain⟨w6,r6,h6,g6,z6⟩:=h5.store pF underlying96 YR (lA (a:=6) underlying3 YR) (Tk #[Bm Sj 0,Bm Sj 0,VN,VN,Bm Sj 0,VN,VR,VN,VN,VN]);obtain⟨w7,r7,h7,g7,z7⟩:=h6.store pF underlying96 YR (lA (a:=7) underlying3 YR) (Tk #[Bm Sj 3,Bm Sj 3,VR,VN,Bm Sj 64,VN,VN,VN,VR,VN]);obtain⟨w8,r8,h8,g8,z8⟩:=h7.store pF underlying96 YR (lA (a:=8) underlying3 YR) (Tk #[Bm Sj 2,Bm Sj 2,VN,VR,Bm Sj 0,VN,VN,VN,VN,VR]);obtain⟨w9,r9,h9,g9,z9⟩:=h8.store pF underlying96 YR (lA (a:=9) underlying3 YR) (Tk #[Bm Sj 0,Bm Sj 0,VN,VR,Bm Sj 0,VN,VN,VN,VN,VN]);obtain⟨aa,ab,a5,a7,ad⟩:=h9.store pF underlying96 YR (lA (a:=10) underlying3 YR) (Tk #[Bm Sj 0,Bm Sj 0,VN,VR,Bm Sj 0,VN,VN,VN,VN,VN]);have a8:Below w.1.size w (w.alloc (.map #[] 0)):=ae w _;go_wp2;go_ret;refine⟨w.1.size,rfl,a5.congr ?_,?_⟩
 ·intro key kl hk;clear hk;by_cases e10:key=Bm Sj 10
  ·subst e10;rw[upd_same];rfl
  rw[bP e10];by_cases e9:key=Bm Sj 9
  ·subst e9;rw[upd_same];rfl
  rw[bP e9];by_cases e8:key=Bm Sj 8
  ·subst e8;rw[upd_same];rfl
  rw[bP e8];by_cases e7:key=Bm Sj 7
  ·subst e7;rw[upd_same];rfl
  rw[bP e7];by_cases e6:key=Bm Sj 6
  ·subst e6;rw[upd_same];rfl
  rw[bP e6];by_cases e5:key=Bm Sj 5
  ·subst e5;rw[upd_same];rfl
  rw[bP e5];by_cases e4:key=Bm Sj 4
  ·subst e4;rw[upd_same];rfl
  rw[bP e4];by_cases e3:key=Bm Sj 3
  ·subst e3;rw[upd_same];rfl
  rw[bP e3];by_cases e2:key=Bm Sj 2
  ·subst e2;rw[upd_same];rfl
  rw[bP e2];by_cases e1:key=Bm Sj 1
  ·subst e1;rw[upd_same];rfl
  rw[bP e1];unfold eH;split
  ·rename_i q;have f1:¬q=1:=fun h=>e1 Tdw;have f2:¬q=2:=fun h=>e2 Tdw;have f3:¬q=3:=fun h=>e3 Tdw;have f4:¬q=4:=fun h=>e4 Tdw;have f5:¬q=5:=fun h=>e5 Tdw;have f6:¬q=6:=fun h=>e6 Tdw;have f7:¬q=7:=fun h=>e7 Tdw;have f8:¬q=8:=fun h=>e8 Tdw;have f9:¬q=9:=fun h=>e9 Tdw;have a9:¬q=10:=fun h=>e10 Tdw;rw[shapeOf,bh f1,bh f2,bh f3,bh f4,bh f5,bh f6,bh f7,bh f8,bh f9,bh a9];rfl
  rfl
 have st:∀W W':H7,Below w.1.size w W->W.grownBy W' (Vv w.1.size)->Below w.1.size w W':=fun W W' hb hg =>
  ⟨hg.os.trans hb.os,hg.tape.trans hb.tape,hg.output.trans hb.output,cA hb.size hg.size,fun k hk=>(hg.block k (cC hk hb.size) (by intro h;injection h with h;omega)).trans (hb.block k hk)⟩
 exact(st _ _ (st _ _ (st _ _ (st _ _ (st _ _ (st _ _ (st _ _ (st _ _ (st _ _ (st _ _ a8 g1) g2) g3) g4) g5) g6) g7) g8) g9) a7)
end
end Go.Proofs.YtfmbphdjcghfnaaGreatDoor
