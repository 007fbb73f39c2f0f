/- Lemmas: SpG, Nam, NamB, NamC, Mpv, Chk, ModA, Box, MkT, ModB. -/
import Derived.Test.YtillcmhjhajimaaGreatDoorQj09
set_option maxRecDepth 100000
set_option maxHeartbeats 32000000
set_option linter.all false
namespace Go.Proofs.YtillcmhjhajimaaGreatDoor
open Go.Proofs.Tryz
open Go.RowKit
variable {l l':List aB}{id c:Int}{ns:List ByteArray}{ls next' n0:List Int}{ps:List (ByteArray × Int × Int)}{vl tl:List ay}{name:ByteArray}{k j i:Nat}{g g' g0:af}
def xe(s:aB):Prop:=(0<=s.length/\s.length<=1000000)/\s.Ga.length<=1000/\(fP s->∀a∈s.Ga,a.vol=false)
def uC(v:ay):Prop:=v.Gf.length<=1000/\∀s∈v.Gf,xe s
theorem TdG{p:Prop}(h:p:=by simp[dE]):p:=h
theorem uE(n:Int)(on:ByteArray)(s:Int)(h:0<=n/\n<=1000):xe (dE n on s):=⟨TdM,TdG,fun _ a ha=>by
 obtain rfl:a=⟨false,on,s⟩:=by simpa[dE]using ha
 rfl⟩
theorem BJ(name:ByteArray)(id:Int)(hd:Bool)(n:Int)(on:ByteArray)(s:Int)(h:0<=n/\n<=1000):uC (eD name id hd n on s):=⟨by simp[eD],fun x hx=>by
 obtain rfl:x=dE n on s:=by simpa[eD]using hx
 exact uE n on s h⟩
theorem Tc7{p:Prop}(h:p:=by simp[aV]):p:=h
theorem fB.ok(h:fB l l')(hl:∀s∈l,xe s):∀s∈l',xe s:=by
 induction h with
 |nil=>exact hl
 |void _ hn hk ih =>
  intro s hs;rcases List.mem_append.1 hs with q|q
  ·exact ih s q
  obtain rfl:=List.mem_singleton.1 q;exact⟨Tdf,Tc7,fun _ a ha=>by simp[aV]at ha⟩
 |lin _ hn ih =>
  intro s hs;rcases List.mem_append.1 hs with q|q
  ·exact ih s q
  obtain rfl:=List.mem_singleton.1 q;refine⟨Tdf,Tc7,fun _ a ha=>?_⟩;simp only[aV,dr,cY,dg]at ha;rw[ha]
 |move _ hn _ ih =>
  intro s hs;rcases List.mem_append.1 hs with q|q
  ·exact ih s q
  obtain rfl:=List.mem_singleton.1 q;refine⟨Tdf,Tc7,fun _ a ha=>?_⟩;simp only[aV,dr,cY,dg]at ha;rcases ha with rfl|rfl<;>rfl
theorem lD.ok(h:lD id c ns ls ps vl)(hl:∀l∈ls,1<=l/\l<=1000):∀v∈vl,uC v:=by
 induction h with
 |nil=>intro v hv;cases hv
 |snoc h ih =>
  intro v hv;rcases List.mem_append.1 hv with q|q
  ·exact ih (fun l hl'=>hl l (ju _ hl')) v q
  obtain rfl:=List.mem_singleton.1 q;have:=hl _ (P9 _ (List.mem_singleton.2 rfl));exact BJ _ _ _ _ _ _ TcN
theorem iO.ok(h:iO id name k c j tl):∀v∈tl,uC v:=by
 induction h with
 |nil=>intro v hv;cases hv
 |snoc h hl ih =>
  intro v hv;rcases List.mem_append.1 hv with q|q
  ·exact ih v q
  obtain rfl:=List.mem_singleton.1 q;refine⟨by simp[jY],fun s hs=>?_⟩;obtain rfl:=List.mem_singleton.1 hs;exact⟨TcU,TcO,fun _ a ha=>by simp at ha⟩
theorem ik.seg{e n:Int}{kind:Int}{names:List ByteArray}{lengths:List Int}{x:aB}(h:ik e n name kind names lengths x)(hn:1<=n/\n<=3):xe x:=by
 have nd:∀k:Int,k=3\/k=4\/k=5\/k=7->¬(k=1\/k=2\/k=8):=fun k h=>by omega
 cases h with
 |mirror k hk c hc st hst=>exact⟨TcU,Tdg,fun q=>absurd q (nd 3 TcN)⟩
 |mirrorLog k hk c hc st hst=>exact⟨TcU,Tdg,fun q=>absurd q (nd 3 TcN)⟩
 |parity k hk c hc =>
  refine⟨?_,Tdg,fun q=>absurd q (nd 4 TcN)⟩;dsimp only;rcases(show n=1\/n=2\/n=3 by omega)with rfl|rfl|rfl<;>omega
 |pool l c hl hc=>exact⟨TcU,by simp[gB],fun q=>absurd q (nd 5 TcN)⟩
 |cache l m c hl hm hc=>exact⟨TcU,by simp[gB],fun q=>absurd q (nd 7 TcN)⟩
theorem Td4{p:Prop}(h:p:=by simp only[ic];omega):p:=h
theorem iy.ok{next:List Int}(h:iy name g next g' next')(he:1<=g.Gd/\g.Gd<=16)(hv:∀v∈g.F9,uC v):∀v∈g'.F9,uC v:=by
 cases h with
 |linF=>exact hv
 |lin hn h1 hm hl h2 hs =>
  intro v hv';rcases List.mem_append.1 hv' with q|q
  ·exact hv v q
  obtain rfl:=List.mem_singleton.1 q;exact⟨TcU,hm.ok fun s hs=>by obtain rfl:=List.mem_singleton.1 hs;exact uE _ _ _ TcN⟩
 |strF h=>exact hv
 |@str k n al next' hk hn hl ha h =>
  intro v hv';rcases List.mem_append.1 hv' with q|q
  ·exact hv v q
  obtain rfl:=List.mem_singleton.1 q;refine⟨by simp[mf],fun s hs=>?_⟩;obtain rfl:=List.mem_singleton.1 hs;refine⟨?_,Td4,fun _ a h=>ha a (by simpa[ic]using h)⟩;simp only[ic];rcases(show n=1\/n=2 by omega)with rfl|rfl<;>omega
 |compF h=>exact hv
 |comp AK hn hR hH hT ht hk hk5 hth =>
  intro v hv';have hl:=(hR.ok he.1 he.2 hn.1 hn.2).2.2;rcases List.mem_append.1 hv' with q|q
  ·rcases List.mem_append.1 q with q|q
   ·rcases List.mem_append.1 q with q|q
    ·exact hv v q
    exact hH.ok hl v q
   obtain rfl:=List.mem_singleton.1 q;exact⟨TcO,fun s hs=>by obtain rfl:=List.mem_singleton.1 hs;exact hR.seg hn⟩
  exact hth.ok v q
theorem bZ.ok{c:Nat}(h0:g0.F9=[]/\g0.next=0)(he:1<=g0.Gd/\g0.Gd<=16)(hd:DOk g0.Gb n0){next:List Int}(h:bZ c g0 n0 i g next):∀v∈g.F9,uC v:=by
 induction h with
 |nil=>rw[h0.1];intro v hv;cases hv
 |@step i g g' next next' h hs ih=>exact hs.ok (by rw[(bZ.bd h0 he hd h).same.2.2.2.1];exact he) ih
theorem fZ.bd{Gb:List az}{a b:List Int}(h:fZ Gb a ps b)(k:DOk Gb a):∀q∈ps,0<=q.2.1/\q.2.1<=1000:=by
 induction h with
 |nil=>intro q hq;cases hq
 |snoc h hd hm h1 h2 h3 ih =>
  intro q hq;rcases List.mem_append.1 hq with q1|q1
  ·exact ih q q1
  obtain rfl:=List.mem_singleton.1 q1;have:=(h.ok k).nx _ _ hm;have:=(h.ok k).ext _ (ct hd);dsimp only;omega
theorem fB.tail(h:fB l l'):∃r,l'=l++r/\∀x∈r,x.kind≠2/\x.Ga.length<=2:=by
 induction h with
 |nil=>exact⟨[],TcO,fun x hx=>by cases hx⟩
 |@void l' n kind _ hn hk ih =>
  obtain⟨r,e,h⟩:=ih;refine⟨r++[aV (bg l') n kind [] 0],by rw[e,cV],fun x hx=>?_⟩;rcases List.mem_append.1 hx with q|q
  ·exact h x q
  obtain rfl:=List.mem_singleton.1 q;exact⟨Tdf,Tc7⟩
 |@lin l' n s on _ hn ih =>
  obtain⟨r,e,h⟩:=ih;refine⟨r++[aV (bg l') n 1 [⟨false,on,s⟩] 0],by rw[e,cV],fun x hx=>?_⟩;rcases List.mem_append.1 hx with q|q
  ·exact h x q
  obtain rfl:=List.mem_singleton.1 q;exact⟨Tc7,Tc7⟩
 |@move l' n s s' dn on on' _ hn hd ih =>
  obtain⟨r,e,h⟩:=ih;refine⟨r++[aV (bg l') n 8 [⟨false,on,s⟩,⟨false,on',s'⟩] dn],by rw[e,cV],fun x hx=>?_⟩;rcases List.mem_append.1 hx with q|q
  ·exact h x q
  obtain rfl:=List.mem_singleton.1 q;exact⟨Tc7,Tc7⟩
def zg(v:ay):Prop:=(∀p∈aW v,0<=p.start/\p.start<=1000)/\(aW v).length<=12
theorem jq(name:ByteArray)(s:aB):(aK name s).length<=s.Ga.length:=by
 unfold aK;split<;>simp
theorem gK{s:aB}{p:gy}(h:p∈aK name s):fP s/\∃a∈s.Ga,p=aJ name s a:=by
 unfold aK at h;split at h
 ·rename_i ho;obtain⟨a,ha,rfl⟩:=List.mem_map.1 h;exact⟨ho,a,ha,rfl⟩
 cases h
theorem gV{α β:Type}(f:α->List β)(m:Nat):∀l:List α,(∀x∈l,(f x).length<=m)->(l.flatMap f).length<=l.length*m
 |[],_=>by simp
 |x :: l,h=>by
  have h1:=h x (cG ..);have h2:=gV f m l fun y hy=>h y (kn _ hy);rw[lB,cD,cS,Oy];omega
theorem TdS{p:Prop}(h:p:=by rw[e];simp):p:=h
theorem um{v:ay}(h:∀s∈v.Gf,¬fP s):zg v:=by
 have e:aW v=[]:=List.eq_nil_iff_forall_not_mem.2 fun p hp=>by
  obtain⟨s,hs,hp⟩:=List.mem_flatMap.1 hp;exact h s hs (gK hp).1
 exact⟨(by rw[e];intro p hp;cases hp),TdS⟩
theorem DU(name:ByteArray)(id:Int)(hd:Bool)(n:Int)(on:ByteArray)(s:Int)(h:0<=s/\s<=1000):zg (eD name id hd n on s):=by
 refine⟨fun p hp=>?_,?_⟩
 ·obtain⟨x,hx,hp⟩:=List.mem_flatMap.1 hp;obtain rfl:=List.mem_singleton.1 hx;obtain⟨_,a,ha,rfl⟩:=gK hp;obtain rfl:=List.mem_singleton.1 ha;exact h
 have:=gV (aK name) 1 [dE n on s] fun x hx=>by obtain rfl:=List.mem_singleton.1 hx;exact jq _ _
 exact cA this TcO
theorem lD.pc(h:lD id c ns ls ps vl)(hl:∀q∈ps,0<=q.2.1/\q.2.1<=1000):∀v∈vl,zg v:=by
 induction h with
 |nil=>intro v hv;cases hv
 |snoc h ih =>
  intro v hv;rcases List.mem_append.1 hv with q|q
  ·exact ih (fun l hl'=>hl l (ju _ hl')) v q
  obtain rfl:=List.mem_singleton.1 q;exact DU _ _ _ _ _ _ (hl _ (P9 _ (List.mem_singleton.2 rfl)))
theorem iO.pc(h:iO id name k c j tl):∀v∈tl,zg v:=by
 induction h with
 |nil=>intro v hv;cases hv
 |snoc h hl ih =>
  intro v hv;rcases List.mem_append.1 hv with q|q
  ·exact ih v q
  obtain rfl:=List.mem_singleton.1 q;refine um fun s hs=>?_;obtain rfl:=List.mem_singleton.1 hs;rintro(q|q|q)<;>simp at q
theorem iy.pc{next:List Int}(h:iy name g next g' next')(hk:DOk g.Gb next)(hv:∀v∈g.F9,zg v):∀v∈g'.F9,zg v:=by
 cases h with
 |linF=>exact hv
 |@lin n s on next1 next' Gf ps hn h1 hm hl h2 hs =>
  intro v hv';rcases List.mem_append.1 hv' with q|q
  ·exact hv v q
  obtain rfl:=List.mem_singleton.1 q;obtain⟨r,e,hr⟩:=hm.tail;subst e;have b1:=h1.bd hk _ (List.mem_singleton.2 rfl);have b2:=h2.bd (h1.ok hk);simp only[cD,cS,Ox]at hl;refine⟨fun p hp=>?_,?_⟩
  ·obtain⟨x,hx,hp⟩:=List.mem_flatMap.1 hp;obtain⟨ho,a,ha,rfl⟩:=gK hp;rcases List.mem_append.1 hx with hx|hx
   ·obtain rfl:=List.mem_singleton.1 hx;obtain rfl:=List.mem_singleton.1 ha;exact b1
   have hk2:=(hr x hx).1;have OU:x.kind=1\/x.kind=8:=by
    rcases ho with q|q|q
    ·exact .inl q
    ·exact absurd q hk2
    exact .inr q
   refine b2 (a.on,a.start,x.length) (hs.subset ?_);refine List.mem_flatMap.2 ⟨x,hx,?_⟩;unfold iG;rw[aw OU];exact List.mem_map.2 ⟨a,ha,rfl⟩
  have:=gV (aK name) 2 ([dE n on s]++r) fun x hx=>by
   refine cA (jq _ _) ?_;rcases List.mem_append.1 hx with hx|hx
   ·obtain rfl:=List.mem_singleton.1 hx;simp[dE]
   exact(hr x hx).2
  refine cA this ?_;simp only[cD,cS,Ox];omega
 |strF h=>exact hv
 |@str k n al next' hk' hn hl ha h =>
  intro v hv';rcases List.mem_append.1 hv' with q|q
  ·exact hv v q
  obtain rfl:=List.mem_singleton.1 q;have b:=h.bd hk;refine⟨fun p hp=>?_,?_⟩
  ·obtain⟨x,hx,hp⟩:=List.mem_flatMap.1 hp;obtain rfl:=List.mem_singleton.1 hx;obtain⟨_,a,ha',rfl⟩:=gK hp;exact b (a.on,a.start,n) (List.mem_map.2 ⟨a,by simpa[ic]using ha',rfl⟩)
  have:=gV (aK name) 3 [ic k n al] fun x hx=>by
   obtain rfl:=List.mem_singleton.1 hx;refine cA (jq _ _) ?_;simp only[ic];omega
  exact cA this TcO
 |compF h=>exact hv
 |comp AK hn hR hH hT ht hk' hk5 hth =>
  intro v hv';rcases List.mem_append.1 hv' with q|q
  ·rcases List.mem_append.1 q with q|q
   ·rcases List.mem_append.1 q with q|q
    ·exact hv v q
    exact hH.pc (hT.bd hk) v q
   obtain rfl:=List.mem_singleton.1 q;refine um fun s hs=>?_;obtain rfl:=List.mem_singleton.1 hs;cases hR<;>(rintro(q|q|q)<;>simp at q)
  exact hth.pc v q
theorem bZ.pc{c:Nat}(h0:g0.F9=[]/\g0.next=0)(he:1<=g0.Gd/\g0.Gd<=16)(hd:DOk g0.Gb n0){next:List Int}(h:bZ c g0 n0 i g next):∀v∈g.F9,zg v:=by
 induction h with
 |nil=>rw[h0.1];intro v hv;cases hv
 |@step i g g' next next' h hs ih =>
  have b:=bZ.bd h0 he hd h;exact hs.pc (by rw[b.same.2.2.2.2.2.1];exact b.dk) ih
structure Fv(g:af):Prop where
 dl:g.Gb.length<=4
 dtags:∀D∈g.Gb,D.tags.length<=1000
 dext:∀D∈g.Gb,0<=D.Gc/\D.Gc<=60
 dfind:∀(i:Nat) (D:az),g.Gb[i]?=some D->bH g.Gb D.name=some D
 vl:g.F9.length<=44
 tame:qx g.F9
 ps:∀p∈pieces g.F9,0<=p.start/\p.start<=1000
 pn:(pieces g.F9).length<=1000
theorem Fq(hi:i<=3)(hj:j<=3)(h:NI++digit i=NI++digit j):i=j:=by
 have h2:=fj (fun b:ByteArray=>b.data.toList) h;rcases(show i=0\/i=1\/i=2\/i=3 by omega)with rfl|rfl|rfl|rfl<;>rcases(show j=0\/j=1\/j=2\/j=3 by omega)with rfl|rfl|rfl|rfl<;>first|rfl|(exfalso;revert h2;decide)
theorem Tcl{p:Prop}(h:p:=by
 obtain⟨k,hk⟩:=fc hD;have:=(hdk k D hk).ext;simp only[dr,cY,dg]at this;omega):p:=h
theorem sU.tame(h:sU g):Fv g:=by
 obtain⟨c,g0,g1,next,hc,_,_,_,ah9,hn0,_,hv0,_,CD,hdk,ye,hg,_,_⟩:=h.ex;have hex:1<=g0.Gd/\g0.Gd<=16:=by
  simp only[dr,cY,dg]at ah9;omega
 have vu:∀D∈g0.Gb,0<=D.Gc/\D.Gc<=60:=fun D hD=>by
  exact Tcl
 have ND:DOk g0.Gb (List.replicate g0.Gb.length 0):=⟨TcO,TcN,TcN,fun D hD=>by have:=vu D hD;omega,fun d m hm=>by
  have:=ct hm;rw[tM]at this;omega⟩
 have b:=bZ.bd ⟨hv0,hn0⟩ hex ND ye;have ok:=bZ.ok ⟨hv0,hn0⟩ hex ND ye;have pc:=bZ.pc ⟨hv0,hn0⟩ hex ND ye;have ed:g.Gb=g0.Gb:=by rw[hg];exact b.same.2.2.2.2.2.1
 have ev:g.F9=g1.F9:=by rw[hg]
 have mb:=b.F9;have S8:g1.F9.length<=44:=by omega
 refine⟨by rw[ed];omega,fun D hD=>?_,fun D hD=>vu D (ed ▸ hD),fun i D hD=>?_,by rw[ev];exact S8,by rw[ev];exact ok,fun p hp=>?_,?_⟩
 ·rw[ed]at hD;obtain⟨k,hk⟩:=fc hD;have:=(hdk k D hk).tags.length_le;have e:iQ.length=4:=rfl;omega
 ·rw[ed]at hD ⊢;have hi:=(List.getElem?_eq_some_iff.1 hD).1;refine pR (k:=i) (fun j E hj hE e=>?_) hD rfl;rw[(hdk j E hE).name,(hdk i D hD).name]at e;have:=Fq TcN TcN e;omega
 ·rw[ev]at hp;obtain⟨v,hv,hp⟩:=List.mem_flatMap.1 hp;exact(pc v hv).1 p hp
 rw[ev];have:=gV aW 12 g1.F9 fun v hv=>(pc v hv).2;unfold pieces;omega
theorem KV:∀(x:List (Int × Int)) (lo hi:Int),lo<=hi->(∀p∈x,1<=p.2)->x.Pairwise (fun p q=>p.1+p.2<q.1)->(∀p∈x,lo<=p.1/\p.1+p.2<=hi)->0<=Aw x/\Aw x<=hi-lo
 |[],lo,hi,h,_,_,_=>by simp[Aw];omega
 |p :: l,lo,hi,h,h1,h2,h3=>by
  have b:=h3 p (cG ..);have c:=h1 p (cG ..);rw[List.pairwise_cons]at h2;have:=KV l (p.1+p.2) hi TcN (fun q hq=>h1 q (kn _ hq)) h2.2 (fun q hq=>⟨by have:=h2.1 q hq;omega,(h3 q (kn _ hq)).2⟩);simp only[Aw,iu,List.sum_cons]at this ⊢;omega
theorem iE.sum_bd{x:List (Int × Int)}{S:Int->Prop}{ext:Int}(h:iE x S)(he:0<=ext)(hS:∀n,S n->0<=n/\n<ext):0<=Aw x/\Aw x<=ext:=by
 have:=KV x 0 ext he h.1.1 h.1.2 fun p hp=>by
  have c:=h.1.1 p hp;have h1:=hS _ ((h.2 p.1).1 ⟨p,hp,TcN,TcN⟩);have h2:=hS _ ((h.2 (p.1+p.2-1)).1 ⟨p,hp,TcN,TcN⟩);omega
 omega
def UU(a k:Int):Int:=bits BinOp.or IntKind.u64 a (IntKind.u64.wrap (2 ^ k.toNat))
def wD(s:Int × Int)(c:Int):Int × Int:=if c<64 then(UU s.1 (c%64),s.2) else(s.1,UU s.2 (c%64))
def gz(w:World)(b:Nat)(s:Int × Int):Prop:=w.heap[b]?=some (.cells #[.int .u64 s.1,.int .u64 s.2] 125 (0,0))
theorem pQ(c:Int)(s:Int × Int)(b:Nat)(w:World)(h0:0<=c)(h1:c<128)(hb:gz w b s) :
  Calls prog 133 #[.int .u8 c,.pointer (some b)] w fun e w'=>e=.returned (.tuple #[])/\gz w' b (wD s c)/\cR (fun i=>i=b) w w':=by
 have c0:w.cell? b=some (.int .u64 s.1):=by simp[World.cell?,show w.heap[b]?=_ from hb]
 have f0:w.frozen? b=false:=by simp[World.frozen?,show w.heap[b]?=_ from hb]
 have c1:w.cell? (Tac b 1)=some (.int .u64 s.2):=by simp[World.cell?,show w.heap[b]?=_ from hb]
 have f1:w.frozen? (Tac b 1)=false:=by simp[World.frozen?,show w.heap[b]?=_ from hb]
 have HB:=aa hb;clear hb;by_cases hc:c<64
 ·have hq:c/64=0:=by omega
  go_enter func133,ntmps133;go_wp2
  go_end0
  refine⟨rfl,?_,(cR.refl (fun i=>i=b) w).setCell (p:=b) (.inl rfl) _⟩;have:=block_setCell (i:=0) (.int .u64 (UU s.1 (c%64))) HB.o;unfold gz wD;rw[aw hc];exact this
 have hq:c/64=1:=by omega
 go_enter func133,ntmps133;go_wp2
 go_end0
 refine⟨rfl,?_,(cR.refl (fun i=>i=b) w).setCell (p:=⟨b,1,none⟩) (.inl rfl) _⟩;have:=block_setCell (i:=1) (.int .u64 (UU s.2 (c%64))) HB.o;unfold gz wD;rw[bh TcN];exact this
def mK:Nat->Int × Int
 |0=>(0,0)
 |k+1=>wD (wD (mK k) (97+k)) (65+k)
def BI(s:Int × Int):Nat->Int × Int
 |0=>s
 |k+1=>wD (BI s k) (48+k)
def xE(s:Int × Int)(l:List UInt8):Int × Int:=l.foldl (fun s c=>wD s c.toNat) s
def AO(l:List UInt8):Int × Int:=xE (BI (mK 26) 10) l
theorem gz.lt{w:World}{b:Nat}{s:Int × Int}(h:gz w b s):b<w.heap.size:=aq h
theorem yD(s:Int × Int)(l:List UInt8)(k:Nat)(c:UInt8)(h:l[k]?=some c):xE s (l.take (k+1))=wD (xE s (l.take k)) c.toNat:=by
 rw[take_snoc' l k c h,xE,List.foldl_append];rfl
theorem Teb{p:Prop}(h:p:=by intro i hi;omega):p:=h
theorem qy(s:ByteArray)(w:World)(hl:∀c∈s.data.toList,c.toNat<128)(hn:s.size<=100) :
  Calls prog 80 #[.string s] w fun e w'=>e=.returned (.agg #[.int .u64 (AO s.data.toList).1,.int .u64 (AO s.data.toList).2])/\Below w.heap.size w w':=by
 have HL:=aa hl;clear hl;go_enter func80,ntmps80;go_wp2
 go_loopw[5] (fun c wr=>∃k:Nat,k<=26/\c=.int .u8 (97+k)/\gz wr (w.heap.size+1) (mK k)/\gz wr w.heap.size (0,0)/\Below w.heap.size w wr) (fun c _=>123-(intOf c).toNat)
 case atStart =>
  refine⟨0,TcN,rfl,?_,?_,((bj _ _).alloc (bk _) _).alloc TcO _⟩
  ·have:=b9 (w.alloc (.cells #[.int .u64 0,.int .u64 0] 125)) (.cells #[.int .u64 0,.int .u64 0] 125);rw[cW]at this;exact this
  exact(cj _ _ _ TcO).trans (b9 w _)
 obtain⟨k,hk,rfl,hs,hr,hB⟩:=hrel;have HR:=aa hr;clear hr;have HS:=aa hs;clear hs;by_cases hlt:k<26
 ·go_wp2_with fail;refine(pQ (97+(k:Int)) (mK k) _ _ TcN TcN HS.o).mono ?_;rintro e w1 ⟨rfl,hs1,hm1⟩;have HR1:Hid (gz w1 w.heap.size (0,0)):=aa ((hm1.block _ HR.o.lt TcN).trans HR.o);have HS1:=aa hs1;clear hs1;have hB1:Below w.heap.size w w1:=hB.trans (hm1.below hB.size Teb);clear hB hm1;go_wp2_with fail;refine(pQ (97+(k:Int)-97+65) _ _ _ TcN TcN HS1.o).mono ?_;rintro e w2 ⟨rfl,hs2,hm2⟩;have E3:Hid (gz w2 w.heap.size (0,0)):=aa ((hm2.block _ HR1.o.lt TcN).trans HR1.o);have HS2:=aa hs2;clear hs2;have hB2:Below w.heap.size w w2:=hB1.trans (hm2.below hB1.size Teb);clear hB1 hm2;go_wp2;go_roundw
  case rel =>
   refine⟨k+1,TcN,TcR,?_,E3.o,hB2⟩;have:=HS2.o;rw[show(97+(k:Int)-97+65)=65+k from by omega]at this;exact this
  simp[intOf];omega
 have HS26:Hid (gz wr (w.heap.size+1) (mK 26)):=aa (by have:=HS.o;rwa[show k=26 from by omega]at this);clear HS;have HS:=HS26;go_wp2;go_loopw[6] (fun c wr=>∃k:Nat,k<=10/\c=.int .u8 (48+k)/\gz wr (w.heap.size+1) (BI (mK 26) k)/\gz wr w.heap.size (0,0)/\Below w.heap.size w wr) (fun c _=>58-(intOf c).toNat)
 exact⟨0,TcN,rfl,HS.o,HR.o,hB⟩;clear HR HS hB HS26;have hk26:=hk;clear hk;rename_i hlt26;obtain⟨k,hk,rfl,hs,hr,hB⟩:=hrel;have HR:=aa hr;clear hr;have HS:=aa hs;clear hs;by_cases hlt:k<10
 ·go_wp2_with fail;refine(pQ (48+(k:Int)) _ _ _ TcN TcN HS.o).mono ?_;rintro e w1 ⟨rfl,hs1,hm1⟩;have HR1:Hid (gz w1 w.heap.size (0,0)):=aa ((hm1.block _ HR.o.lt TcN).trans HR.o);have HS1:=aa hs1;clear hs1;have hB1:Below w.heap.size w w1:=hB.trans (hm1.below hB.size Teb);clear hB hm1;go_wp2;go_roundw;exact⟨k+1,TcN,TcR,HS1.o,HR1.o,hB1⟩;simp[intOf];omega
 have HS10:Hid (gz wr (w.heap.size+1) (BI (mK 26) 10)):=aa (by have:=HS.o;rwa[show k=10 from by omega]at this);clear HS;have HS:=HS10;go_wp2;go_loopw[30,7] (fun i _ wr=>∃k:Nat,k<=s.size/\i=.int .i64 k/\gz wr (w.heap.size+1) (xE (BI (mK 26) 10) (s.data.toList.take k))/\gz wr w.heap.size (0,0)/\Below w.heap.size w wr) (fun i _ _=>s.size-(intOf i).toNat)
 exact⟨0,cg _,rfl,HS.o,HR.o,hB⟩;clear HR HS hB HS10;have hk10:=hk;clear hk;rename_i hlt10;obtain⟨k,hk,rfl,hs,hr,hB⟩:=hrel;have HR:=aa hr;clear hr;have HS:=aa hs;clear hs;by_cases hlt:k<s.size
 ·have hc:s.data.toList[k]?=some s[k]:=by
   rw[lO Tec];rfl
  have hc1:=HL.o _ (ct hc);have HM:=aa (yD (BI (mK 26) 10) _ k _ hc);clear hc;go_wp2_with fail;refine(pQ _ _ _ _ TcN TcN HS.o).mono ?_;rintro e w1 ⟨rfl,hs1,hm1⟩;have HR1:Hid (gz w1 w.heap.size (0,0)):=aa ((hm1.block _ HR.o.lt TcN).trans HR.o);have HS1:=aa hs1;clear hs1;have hB1:Below w.heap.size w w1:=hB.trans (hm1.below hB.size Teb);clear hB hm1;go_wp2;go_roundw;exact⟨k+1,TcN,TcR,by rw[HM.o];exact HS1.o,HR1.o,hB1⟩;simp[intOf];omega
 obtain rfl:k=s.size:=by omega
 have hm:gz wr (w.heap.size+1) (AO s.data.toList):=by
  have:=HS.o;rwa[jz TcO]at this
 have m0:wr.cell? (Tac (w.heap.size+1) 0)=some (.int .u64 (AO s.data.toList).1):=by simp[World.cell?,show wr.heap[w.heap.size+1]?=_ from hm]
 have m1:wr.cell? (Tac (w.heap.size+1) 1)=some (.int .u64 (AO s.data.toList).2):=by simp[World.cell?,show wr.heap[w.heap.size+1]?=_ from hm]
 have f0:wr.frozen? w.heap.size=false:=by simp[World.frozen?,show wr.heap[w.heap.size]?=_ from HR.o]
 have f1:wr.frozen? (Tac w.heap.size 1)=false:=by simp[World.frozen?,show wr.heap[w.heap.size]?=_ from HR.o]
 have r0:wr.cell? w.heap.size=some (.int .u64 0):=by simp[World.cell?,show wr.heap[w.heap.size]?=_ from HR.o]
 have r1:wr.cell? (Tac w.heap.size 1)=some (.int .u64 0):=by simp[World.cell?,show wr.heap[w.heap.size]?=_ from HR.o]
 clear hm;go_wp2;refine eC (v:=.agg #[.int .u64 (AO s.data.toList).1,.int .u64 (AO s.data.toList).2]) (by simp[results,Tryz.results80,go_sem,r0,r1,m0,m1]) rfl ⟨rfl,(hB.setCell (p:=w.heap.size) (bk _) _).setCell (p:=⟨w.heap.size,1,none⟩) (bk _) _⟩
def Ei(s:Int × Int)(c:Nat):Bool:=if c<64 then !(bits BinOp.and IntKind.u64 (s.1/2 ^ (c%64)) 1==0) else !(bits BinOp.and IntKind.u64 (s.2/2 ^ (c%64)) 1==0)
def kT(s:Int × Int)(c:UInt8):Bool:=decide (c.toNat<128)&&Ei s c.toNat
def wS(t:Int × Int)(s:ByteArray):Bool:=s.data.toList.all (kT t)
theorem Tei{p:Prop}(h:p:=by simpa using(List.getElem?_eq_some_iff.1 hj).1):p:=h
theorem zP(t:Int × Int)(s:ByteArray)(w:World)(hn:s.size<=9223372036854775807) :
  Calls prog 81 #[.agg #[.int .u64 t.1,.int .u64 t.2],.string s] w fun e w'=>e=.returned (.bool (wS t s))/\Below w.heap.size w w':=by
 have hb:=ae w (.cells #[.int .u64 t.1,.int .u64 t.2] 125);have HB:=aa hb;clear hb;have t0:(w.alloc (.cells #[.int .u64 t.1,.int .u64 t.2] 125)).cell? w.heap.size=some (.int .u64 t.1):=aD rfl rfl;have t1:(w.alloc (.cells #[.int .u64 t.1,.int .u64 t.2] 125)).cell? (Tac w.heap.size 1)=some (.int .u64 t.2):=aD rfl rfl;go_enter func81,ntmps81;go_wp2;generalize hW:World.alloc w _=W at *;have HW:=aa hW;clear hW
 go_loop[9,5,6] (fun i _ _=>∃k:Nat,k<=s.size/\i=.int .i64 k/\(∀j,j<k->∀c,s.data.toList[j]?=some c->kT t c=true)) (fun i _ _=>s.size-(intOf i).toNat)
 exact⟨0,cg _,rfl,fun j hj=>by omega⟩;obtain⟨k,hk,rfl,hall⟩:=hrel;have HA:=aa hall;clear hall;by_cases hlt:k<s.size
 ·have hc:s.data.toList[k]?=some s[k]:=by
   rw[lO Tec];rfl
  have HC:=aa hc;clear hc;have HU:Hid (∀b:Bool,kT t s[k]=b->∀j,j<k+1->∀c,s.data.toList[j]?=some c->kT t c=b\/kT t c=true):=aa fun b hb j hj c QO=>by
   by_cases hjk:j=k
   ·subst hjk;rw[HC.o]at QO;cases QO
    exact .inl hb
   exact .inr (HA.o j TcN c QO)
  have HF:Hid (kT t s[k]=false->wS t s=false):=aa fun hf=>by
   rw[wS,lr];exact⟨_,ct HC.o,by simp[hf]⟩
  have HI:Hid (kT t s[k]=(decide (s[k].toNat<128)&&Ei t s[k].toNat)):=aa rfl;clear HC;go_upto_region 5 with(fail);generalize hib:kT t s[k]=ib at *;generalize hcg:s[k].toNat=c at *;have HIB:=aa hib;clear hib;have HCG:=aa hcg;clear hcg;by_cases h128:(c:Int)<128
  ·by_cases h64:(c:Int)<64
   ·skip;have hq:(c:Int)/64=0:=by omega
    have hcb:ib=!(bits BinOp.and IntKind.u64 (t.1/2 ^ (c%64)) 1==0):=by
     rw[HI.o];simp[Ei,show c<128 by omega,show c<64 by omega]
    have nw:=aa hcb;clear hcb;cases aD9:(bits BinOp.and IntKind.u64 (t.1/2 ^ (c%64)) 1==0)with
    |true =>
     go_wp2;go_ret;refine⟨ah (HF.o ?_).symm,HB.o⟩;rw[nw.o,aD9];rfl
    |false =>
     go_wp2;go_round
     case rel =>
      refine⟨k+1,TcN,TcR,fun j hj c hc=>(HU.o _ rfl j hj c hc).elim (fun h=>?_) id⟩;rw[h,nw.o,aD9];rfl
     simp[intOf];omega
   skip;have hq:(c:Int)/64=1:=by omega
   have hcb:ib=!(bits BinOp.and IntKind.u64 (t.2/2 ^ (c%64)) 1==0):=by
    rw[HI.o];simp[Ei,show c<128 by omega,show ¬c<64 by omega]
   have nw:=aa hcb;clear hcb;cases aD9:(bits BinOp.and IntKind.u64 (t.2/2 ^ (c%64)) 1==0)with
   |true =>
    go_wp2;go_ret;refine⟨ah (HF.o ?_).symm,HB.o⟩;rw[nw.o,aD9];rfl
   |false =>
    go_wp2;go_round
    case rel =>
     refine⟨k+1,TcN,TcR,fun j hj c hc=>(HU.o _ rfl j hj c hc).elim (fun h=>?_) id⟩;rw[h,nw.o,aD9];rfl
    simp[intOf];omega
  go_wp2;go_ret;refine⟨ah (HF.o ?_).symm,HB.o⟩;rw[HI.o];simp[show ¬c<128 by omega]
 obtain rfl:k=s.size:=by omega
 go_wp2;go_ret;refine⟨ah (Eq.symm ?_),HB.o⟩;rw[wS,eL];intro c hc;obtain⟨j,hj⟩:=fc hc;exact HA.o j Tei c hj
open Go.Shelf
variable {s:ByteArray}{w w':World}{l x:List UInt8}
def vF:Int × Int:=AO [95,46,43,45]
def zB:Int × Int:=AO [95,46,43,45,47,61,58]
def lI(s:ByteArray):UInt8:=s.data.toList.headD 0
def qA(s:ByteArray):Bool:=decide (0<s.size)&&decide (s.size<=40)&&!((lI s).toNat==45)&&!((lI s).toNat==46)&&wS vF s
def mr(s:ByteArray):Bool:=decide (0<s.size)&&decide (s.size<=24)&&!((lI s).toNat==45)&&wS zB s
theorem TbX{p:Prop}(h:p:=by
 obtain⟨⟨l⟩⟩:=s
 cases l with
 |nil=>exact absurd h (by simp[ByteArray.size])
 |cons a l=>rfl):p:=h
theorem wH(s:ByteArray)(h:0<s.size):s[0]=lI s:=by
 exact TbX
theorem oI(h:¬0<s.size):s=⟨#[]⟩:=by
 obtain⟨⟨l⟩⟩:=s;cases l with
 |nil=>rfl
 |cons a l=>exact absurd (by simp[ByteArray.size]) h
theorem lS(h:0<s.size):s.toList.isEmpty=false:=by
 rw[A6];exact TbX
theorem TbA{p:Prop}(h:p:=by
 rintro e w2 ⟨rfl,hb2⟩;have cm:=Zbl cU hb2;clear hb2;go_wp2;go_ret;exact⟨ah (by rw[HN.o];rfl),cm.o⟩):p:=h
theorem Tb7{p:Prop}(h:p:=by
 have h1:(s[0].toNat:Int)=45:=by assumption
 go_ret;exact⟨ah (by rw[HN.o,h1];rfl),bj _ _⟩):p:=h
theorem Du(s:ByteArray)(w:World)(hs:s.size<=9223372036854775807) :
  Calls prog 157 #[.string s] w fun e w'=>e=.returned (.bool (qA s))/\Below w.heap.size w w':=by
 have as4:=aa (fun w=>qy ⟨#[95,46,43,45]⟩ w TcQ TcQ);by_cases h0:0<s.size
 ·have he:=lS h0;have HH:=aa (wH s h0);by_cases h40:s.size<=40
  ·have HN:Hid (qA s=(!((s[0].toNat:Int)==45)&&!((s[0].toNat:Int)==46)&&wS vF s)):=aa (by
    rw[HH.o];simp[qA,h0,h40,Bool.and_assoc];rw[show(((lI s).toNat:Int)==45)=((lI s).toNat==45) from by rw[mN];simp;omega,show(((lI s).toNat:Int)==46)=((lI s).toNat==46) from by rw[mN];simp;omega])
   go_enter func157,ntmps157
   go_wp2_with fail
   ·exact Tb7
   ·have h1:(s[0].toNat:Int)=46:=by assumption
    go_ret;exact⟨ah (by rw[HN.o,h1];rfl),bj _ _⟩
   refine(as4.o _).mono ?_;rintro e w1 ⟨rfl,hb1⟩;have cU:=aa hb1;clear hb1;go_wp2_with fail;refine(zP vF s _ hs).mono ?_;exact TbA
  have HN:Hid (qA s=false):=aa (by simp[qA,h40]);go_enter func157,ntmps157;go_wp2;go_ret;exact⟨ah HN.o.symm,bj _ _⟩
 obtain rfl:=oI h0;go_enter func157,ntmps157;go_wp2;go_ret;exact⟨rfl,bj _ _⟩
theorem Af(s:ByteArray)(w:World)(hs:s.size<=9223372036854775807) :
  Calls prog 45 #[.string s] w fun e w'=>e=.returned (.bool (mr s))/\Below w.heap.size w w':=by
 have as4:=aa (fun w=>qy ⟨#[95,46,43,45,47,61,58]⟩ w TcQ TcQ);by_cases h0:0<s.size
 ·have he:=lS h0;have HH:=aa (wH s h0);by_cases h40:s.size<=24
  ·have HN:Hid (mr s=(!((s[0].toNat:Int)==45)&&wS zB s)):=aa (by
    rw[HH.o];simp[mr,h0,h40,Bool.and_assoc];rw[show(((lI s).toNat:Int)==45)=((lI s).toNat==45) from by rw[mN];simp;omega])
   go_enter func45,ntmps45
   go_wp2_with fail
   ·exact Tb7
   refine(as4.o _).mono ?_;rintro e w1 ⟨rfl,hb1⟩;have cU:=aa hb1;clear hb1;go_wp2_with fail;refine(zP zB s _ hs).mono ?_;exact TbA
  have HN:Hid (mr s=false):=aa (by simp[mr,h40]);go_enter func45,ntmps45;go_wp2;go_ret;exact⟨ah HN.o.symm,bj _ _⟩
 obtain rfl:=oI h0;go_enter func45,ntmps45;go_wp2;go_ret;exact⟨rfl,bj _ _⟩
def nV:List (List UInt8):=[[95,108,111,103],[95,100,97,116,97],[95,109,101,116,97],[95,115,112,97,114,101]]
def xg:List UInt8:=[95,108,101,103]
def jr(l:List UInt8):Option (List UInt8) :=
 match nV.find? (fun p=>Lib.hasSuffix l p)with
 |some p=>some (l.take (l.length-p.length))
 |none=>if 0<l.length/\48<=(l.getLastD 0).toNat/\(l.getLastD 0).toNat<=55/\Lib.hasSuffix l.dropLast xg=true then some (l.dropLast.take (l.dropLast.length-4)) else none
def AW(w:World):Prop:=0<w.heap.size/\∀(i:Nat) (l:List UInt8),([] :: nV)[i]?=some l->w.cell? (0,i)=some (.string ⟨l.toArray⟩)
theorem AW.below(h:AW w)(hb:Below w.heap.size w w'):AW w':=⟨cC h.1 hb.size,fun i l hl=>(hb.cell (p:=⟨0,i,none⟩) h.1).trans (h.2 i l hl)⟩
theorem AW.mod{F:Nat->Prop}(h:AW w)(hb:cR F w w')(hF:¬F 0):AW w':=⟨cC h.1 hb.size,fun i l hl=>(hb.cell (p:=⟨0,i,none⟩) h.1 hF).trans (h.2 i l hl)⟩
def Ep(s:ByteArray)(w:World)(e:Ending)(w':World):Prop:=∃r:List UInt8,e=.returned (.tuple #[.string ⟨r.toArray⟩,.bool (jr s.data.toList).isSome])/\(∀x,jr s.data.toList=some x->r=x)/\w=w'
theorem Es(s:ByteArray)(h:0<s.size):s[s.size-1]'TcN=s.data.toList.getLastD 0:=by
 obtain⟨⟨l⟩⟩:=s;show l[l.length-1]'(by show l.length-1<l.length;have:0<l.length:=h;omega)=_;rw[List.getLastD_eq_getLast?,List.getLast?_eq_getElem?,lO];rfl
theorem Tbu{p:Prop}(h:p:=by
 go_ret2;have hn:=HNo.o (by rw[<- HL.o];omega);refine(show Ep s w _ w from⟨s.data.toList,by rw[hn];rfl,(fun x hx=>by rw[hn]at hx;cases hx),rfl⟩)):p:=h
theorem Ac(s:ByteArray)(w:World)(hs:s.size<=9223372036854775807)(hS:AW w) :
  Calls prog 156 #[.string s] w (Ep s w):=by
 have HS:=aa hS;clear hS;go_enter func156,ntmps156;go_wp2
 go_loop[11] (fun i=>∃k:Nat,k<=4/\i=.int .i64 k/\(∀j p,j<k->nV[j]?=some p->Lib.hasSuffix s.data.toList p=false)) (fun i=>4-(intOf i).toNat)
 exact⟨0,cg _,rfl,fun j p hj=>by omega⟩;obtain⟨k,hk,rfl,hno⟩:=hrel;have Ty:=aa hno;clear hno;by_cases hlt:k<4
 ·obtain⟨p,hp⟩:=aj nV k hlt;have hc:w.cell? (0,1+k)=some (.string ⟨p.toArray⟩):=HS.o.2 (1+k) p (by rw[Nat.add_comm,List.getElem?_cons_succ];exact hp);have HP:=aa hp;clear hp;go_wp2_with fail;refine(Any.strings_CutSuffix Tryz.lays104 s ⟨p.toArray⟩ _ hs).mono ?_;rintro e w' ⟨rfl,rfl⟩;cases MO:Lib.hasSuffix s.data.toList (⟨p.toArray⟩:ByteArray).data.toList with
  |true =>
   go_wp2;go_ret2;have hf:jr s.data.toList=some (s.data.toList.take (s.data.toList.length-p.length)):=by
    have:nV.find? (fun p=>Lib.hasSuffix s.data.toList p)=some p:=by
     rw[List.find?_eq_some_iff_getElem];obtain⟨hk4,ZU⟩:=List.getElem?_eq_some_iff.1 HP.o;refine⟨MO,k,hk4,ZU,fun j hj=>?_⟩;rw[Ty.o j _ hj (lO TcN)];rfl
    simp only[jr,this]
   refine⟨s.data.toList.take (s.data.toList.length-p.length),?_,fun x hx=>?_,rfl⟩
   ·rw[hf];have:Lib.trimSuffix s.data.toList p=s.data.toList.take (s.data.toList.length-p.length):=by
     unfold Lib.trimSuffix;rw[aw MO]
    rw[<- this];rfl
   rw[hf]at hx;exact gj hx
  |false =>
   go_wp2;go_round
   case rel =>
    refine⟨k+1,TcN,TcR,fun j q hj hq=>?_⟩;by_cases hjk:j=k
    ·subst hjk;rw[HP.o]at hq;cases hq
     exact MO
    exact Ty.o j q TcN hq
   simp[intOf];omega
 obtain rfl:k=4:=by omega
 have HN:Hid (nV.find? (fun p=>Lib.hasSuffix s.data.toList p)=none):=aa (by
  rw[List.find?_eq_none];intro p hp;obtain⟨j,hj⟩:=fc hp;rw[Ty.o j p (List.getElem?_eq_some_iff.1 hj).1 hj];simp)
 by_cases h0:0<s.size
 ·have HL:=aa (Es s h0);have hNo:∀(_:¬(48<=(s.data.toList.getLastD 0).toNat/\(s.data.toList.getLastD 0).toNat<=55)),jr s.data.toList=none:=fun h=>by
   simp only[jr,HN.o];rw[bh (fun q=>h ⟨q.2.1,q.2.2.1⟩)]
  have HNo:=aa hNo;clear hNo;go_wp2_with fail
  ·have hq:(((s[s.size-1].toNat:Int))<48)\/55<(s[s.size-1].toNat:Int):=by
    have:((s.size:Int)-1<0\/(s[s.size-1].toNat:Int)<48)\/55<(s[s.size-1].toNat:Int):=by assumption
    omega
   exact Tbu
  ·have hq:((0:Int)<=(s.size:Int)-1/\48<=(s[s.size-1].toNat:Int))/\(s[s.size-1].toNat:Int)<=55:=by assumption
   have hq1:48<=(s.data.toList.getLastD 0).toNat/\(s.data.toList.getLastD 0).toNat<=55:=by rw[<- HL.o];omega
   clear hq;have HQ:=aa hq1;clear hq1;refine(Any.strings_CutSuffix Tryz.lays104 _ _ _ TcS).mono ?_;rintro e w' ⟨rfl,rfl⟩;go_wp2;go_ret2;cases MO:Lib.hasSuffix s.data.toList.dropLast xg with
   |true =>
    have hf:jr s.data.toList=some (s.data.toList.dropLast.take (s.data.toList.dropLast.length-4)):=by
     simp only[jr,HN.o];rw[aw ⟨TdC,HQ.o.1,HQ.o.2,MO⟩]
    refine⟨s.data.toList.dropLast.take (s.data.toList.dropLast.length-4),?_,fun x hx=>?_,rfl⟩
    ·rw[hf];have:Lib.trimSuffix s.data.toList.dropLast xg=s.data.toList.dropLast.take (s.data.toList.dropLast.length-4):=by
      unfold Lib.trimSuffix;rw[aw MO];rfl
     rw[<- this];show Ending.returned (.tuple #[_,.bool (Lib.hasSuffix _ xg)])=_;rw[MO];rfl
    rw[hf]at hx;exact gj hx
   |false =>
    have hf:jr s.data.toList=none:=by
     simp only[jr,HN.o];rw[bh (fun q=>by rw[MO]at q;exact absurd q.2.2.2 TcO)]
    refine⟨Lib.trimSuffix s.data.toList.dropLast xg,?_,(fun x hx=>by rw[hf]at hx;cases hx),rfl⟩;rw[hf];show Ending.returned (.tuple #[_,.bool (Lib.hasSuffix _ xg)])=_;rw[MO];rfl
  have hq:(s[s.size-1].toNat:Int)<48:=by assumption
  exact Tbu
 obtain rfl:=oI h0;go_wp2;go_ret2;exact(show Ep ⟨#[]⟩ w _ w from⟨[],rfl,(fun x hx=>by cases hx),rfl⟩)
def jo(s:ByteArray):Bool:=qA s&&decide (s.size<=24)&&!(jr s.data.toList).isSome
theorem Ta1{p:Prop}(h:p:=by
 cases hn:qA s with
 |false =>
  go_wp2;go_ret;exact⟨ah (by simp[jo,hn]),cU.o⟩
 |true =>
  by_cases h24:s.size<=24
  ·cases hc:(jr s.data.toList).isSome with
   |false =>
    go_wp2;go_ret;exact⟨ah (by simp[jo,hn,h24,hc]),cU.o⟩
   |true =>
    go_wp2;go_ret;exact⟨ah (by simp[jo,hn,h24,hc]),cU.o⟩
  go_wp2;go_ret;exact⟨ah (by simp[jo,hn,h24]),cU.o⟩):p:=h
theorem fT(s:ByteArray)(w:World)(hs:s.size<=9223372036854775807)(hS:AW w) :
  Calls prog 110 #[.string s] w fun e w'=>e=.returned (.bool (jo s))/\Below w.heap.size w w':=by
 have HS:=aa hS;clear hS;go_enter func110,ntmps110
 go_wp2_with fail;refine(Ac s _ hs HS.o).mono ?_;rintro e w' ⟨r,rfl,_,rfl⟩;go_wp2_with fail;refine(Du s _ hs).mono ?_;rintro e w1 ⟨rfl,hb1⟩;have cU:=aa hb1;clear hb1;exact Ta1
theorem pU(h:jr l=some x):x.length<l.length:=by
 unfold jr at h;cases hf:nV.find? (fun p=>Lib.hasSuffix l p)with
 |some p =>
  rw[hf]at h;obtain rfl:=gj h;have hp:=eV hf;have hs:=List.find?_some hf;have h1:p.length<=l.length:=(List.isSuffixOf_iff_suffix.1 hs).length_le;have h2:0<p.length:=by
   simp only[nV,dr,cY,dg]at hp;rcases hp with rfl|rfl|rfl|rfl<;>simp
  rw[ey];omega
 |none =>
  rw[hf]at h;by_cases c:0<l.length/\48<=(l.getLastD 0).toNat/\(l.getLastD 0).toNat<=55/\Lib.hasSuffix l.dropLast xg=true
  ·simp only[aw c]at h;obtain rfl:=gj h;rw[ey,List.length_dropLast];omega
  simp only[bh c]at h
  cases h
def lK:Nat->List UInt8->List UInt8 × Nat
 |0,l=>(l,0)
 |f+1,l=>match jr l with
  |none=>(l,0)
  |some x=>((lK f x).1,(lK f x).2+1)
def gu(l:List UInt8):List UInt8 × Nat:=lK l.length l
theorem mG:∀(f:Nat) (l:List UInt8),l.length<=f->lK f l=lK l.length l
 |0,l,h=>by rw[show l.length=0 by omega]
 |f+1,l,h=>by
  cases hl:l.length with
  |zero =>
   have:l=[]:=fX hl;subst this;rfl
  |succ n =>
   unfold lK;cases hc:jr l with
   |none=>rfl
   |some x =>
    have:=pU hc;simp only[];rw[mG f x TcN,mG n x TcN]
theorem yc(h:jr l=none):gu l=(l,0):=by
 unfold gu;cases hl:l.length with
 |zero=>rfl
 |succ n=>simp only[lK,h]
theorem zI(h:jr l=some x):gu l=((gu x).1,(gu x).2+1):=by
 have hx:=pU h;unfold gu;cases hl:l.length with
 |zero=>omega
 |succ n =>
  simp only[lK,h];rw[mG n x TcN]
theorem Cy(l:List UInt8)(w:World)(hs:l.length<=9223372036854775807)(hS:AW w) :
  Calls prog 160 #[.string ⟨l.toArray⟩] w fun e w'=>e=.returned (.tuple #[.string ⟨(gu l).1.toArray⟩,.int .i64 (gu l).2])/\w=w':=by
 have HS:=aa hS;clear hS;go_enter func160,ntmps160;go_wp2
 go_loop[0,4] (fun s n=>∃(r:List UInt8) (k:Nat),s=.string ⟨r.toArray⟩/\n=.int .i64 k/\r.length+k<=l.length/\(gu l).1=(gu r).1/\(gu l).2=(gu r).2+k) (fun s _=>match s with|.string x=>x.size|_=>0)
 exact⟨l,0,rfl,rfl,TcN,rfl,rfl⟩;obtain⟨r,k,rfl,rfl,hrk,h1,h2⟩:=hrel;have H1:=aa h1;clear h1;have H2:=aa h2;clear h2;go_wp2_with fail;refine(Ac ⟨r.toArray⟩ _ (by show r.length<=_;omega) HS.o).mono ?_;rintro e w' ⟨x,rfl,hx,rfl⟩;have HX:=aa hx;clear hx;cases hc:jr (⟨r.toArray⟩:ByteArray).data.toList with
 |none =>
  go_wp2;go_ret2;have:=yc (l:=r) hc;exact⟨by rw[H1.o,H2.o,this];simp,rfl⟩
 |some y =>
  obtain rfl:=HX.o y hc;have hlt:=pU (l:=r) hc;have HC:=aa (show jr r=some x from hc);go_wp2;go_round
  case rel =>
   have:=zI HC.o;exact⟨x,k+1,rfl,TcR,TcN,by rw[H1.o,this],by rw[H2.o,this];omega⟩
  simp[ByteArray.size];omega
def zH(s:ByteArray):Bool:=decide (0<(gu s.data.toList).2)&&decide (s.size<=40)&&jo ⟨(gu s.data.toList).1.toArray⟩
theorem bytes_eta(s:ByteArray):s=⟨s.data.toList.toArray⟩:=by
 obtain⟨⟨l⟩⟩:=s;rfl
theorem uB:∀(f:Nat) (l:List UInt8),(lK f l).1.length<=l.length
 |0,l=>bk _
 |f+1,l=>by
  unfold lK;cases hc:jr l with
  |none=>exact bk _
  |some x=>exact cA (uB f x) (Nat.le_of_lt (pU hc))
theorem TdP{p:Prop}(h:p:=by simpa using hs):p:=h
theorem qO(s:ByteArray)(w:World)(hs:s.size<=9223372036854775807)(hS:AW w) :
  Calls prog 116 #[.string s] w fun e w'=>e=.returned (.bool (zH s))/\Below w.heap.size w w':=by
 have HS:=aa hS;clear hS;have hlen:(gu s.data.toList).1.length<=9223372036854775807:=cA (uB _ _) TdP;have pL:=aa (Cy s.data.toList w TdP HS.o);rw[<- bytes_eta]at pL;go_enter func116,ntmps116
 go_wp2_with fail;refine pL.o.mono ?_;clear pL;rintro e w' ⟨rfl,rfl⟩;have HH:Hid (zH s=(decide (0<(gu s.data.toList).2)&&decide (s.size<=40)&&jo ⟨(gu s.data.toList).1.toArray⟩)):=aa rfl;generalize hb:(gu s.data.toList).1=b at *;generalize hk:(gu s.data.toList).2=k at *;clear hb hk;by_cases h0:0<k
 ·by_cases h40:s.size<=40
  ·go_wp2_with fail;refine(fT ⟨b.toArray⟩ _ hlen HS.o).mono ?_;rintro e w1 ⟨rfl,hb1⟩;have cU:=aa hb1;clear hb1;go_wp2;go_ret;exact⟨ah (by rw[HH.o];simp[h0,h40]),cU.o⟩
  go_wp2;go_ret;exact⟨ah (by rw[HH.o];simp[h40]),bj _ _⟩
 go_wp2;go_ret;exact⟨ah (by rw[HH.o];simp[h0]),bj _ _⟩
theorem sQ(a b:List UInt8):(⟨a.toArray⟩:ByteArray)++(⟨b.toArray⟩:ByteArray)=⟨(a++b).toArray⟩:=by
 apply ByteArray.ext;simp
def iK(l vd:List UInt8):List UInt8 × Int :=
 if jo ⟨l.toArray⟩=false/\zH ⟨l.toArray⟩=false then([],10) else if vd=[] then([],1) else if 40<l.length+vd.length then([],4) else(l++vd,0)
theorem TeC{p:Prop}(h:p:=by rw[HX.o];exact fj (fun b=>Ending.returned (.tuple #[.string b,.int .i64 0])) (sQ l vd)):p:=h
theorem Tdi{p:Prop}(h:p:=by rw[HX.o];rfl):p:=h
theorem Tc1{p:Prop}(h:p:=by rw[HR.o];rfl):p:=h
theorem dR(l vd:List UInt8)(w:World)(hs:l.length<=1000000000)(hs2:vd.length<=100)(hS:AW w) :
  Calls prog 179 #[.string ⟨l.toArray⟩,.string ⟨vd.toArray⟩] w fun e w'=>e=.returned (.tuple #[.string ⟨(iK l vd).1.toArray⟩,.int .i64 (iK l vd).2])/\Below w.heap.size w w':=by
 have HS:=aa hS;clear hS;have hz:(⟨l.toArray⟩:ByteArray).size=l.length:=rfl;have hz2:(⟨vd.toArray⟩:ByteArray).size=vd.length:=rfl;have HW:=aa (iK.eq_1 l vd);go_enter func179,ntmps179
 go_wp2_with fail;refine(fT ⟨l.toArray⟩ _ TcN HS.o).mono ?_;rintro e w1 ⟨rfl,hb1⟩;have HS1:=aa (HS.o.below hb1);have cU:=aa hb1;clear hb1;have rest:∀w2:World,Below w.heap.size w w2->(jo ⟨l.toArray⟩=true\/zH ⟨l.toArray⟩=true)->iK l vd=if vd=[] then([],1) else if 40<l.length+vd.length then([],4) else(l++vd,0):=fun w2 _ h=>by
  rw[HW.o,bh];rintro⟨a,b⟩;rcases h with h|h
  ·rw[a]at h;cases h
  rw[b]at h;cases h
 cases hv:jo ⟨l.toArray⟩with
 |true =>
  have HR:=aa (rest w (bj _ _) (.inl hv));clear rest HW;by_cases ao2:vd=[]
  ·subst ao2;go_wp2;go_ret2;exact⟨Tc1,cU.o⟩
  have OQ:vd.isEmpty=false:=by simpa using ao2
  by_cases h40:40<l.length+vd.length
  ·have HX:Hid (iK l vd=([],4)):=aa (by rw[HR.o,bh ao2,aw h40]);go_wp2;go_ret2;exact⟨Tdi,cU.o⟩
  have HX:Hid (iK l vd=(l++vd,0)):=aa (by rw[HR.o,bh ao2,bh h40]);go_wp2;go_ret2;exact⟨TeC,cU.o⟩
 |false =>
  go_wp2_with fail;refine(qO ⟨l.toArray⟩ _ TcN HS1.o).mono ?_;rintro e w2 ⟨rfl,hb2⟩;have cm:=Zbl cU hb2;clear hb2;cases hh:zH ⟨l.toArray⟩with
  |true =>
   have HR:=aa (rest w (bj _ _) (.inr hh));clear rest HW;by_cases ao2:vd=[]
   ·subst ao2;go_wp2;go_ret2;exact⟨Tc1,cm.o⟩
   have OQ:vd.isEmpty=false:=by simpa using ao2
   by_cases h40:40<l.length+vd.length
   ·have HX:Hid (iK l vd=([],4)):=aa (by rw[HR.o,bh ao2,aw h40]);go_wp2;go_ret2;exact⟨Tdi,cm.o⟩
   have HX:Hid (iK l vd=(l++vd,0)):=aa (by rw[HR.o,bh ao2,bh h40]);go_wp2;go_ret2;exact⟨TeC,cm.o⟩
  |false =>
   have HX:Hid (iK l vd=([],10)):=aa (by rw[HW.o,aw ⟨hv,hh⟩]);clear rest HW;go_wp2;go_ret2;exact⟨Tdi,cm.o⟩
def bf(k:Int):List UInt8:=if 0<=k/\k<=7 then xg++[UInt8.ofNat (48+k.toNat)] else []
def dH(k:Int):List UInt8:=if 1<=k/\k<=4 then nV.getD (k.toNat-1) [] else []
theorem TcI{p:Prop}(h:p:=by
 rintro e w1 ⟨rfl,hb1⟩;have cU:=aa hb1;clear hb1;go_wp2;go_ret2;exact⟨rfl,cU.o⟩):p:=h
theorem Tbv{p:Prop}(h:p:=by
 go_wp2_with fail;refine(dR l [] _ hs TcO HS.o).mono ?_;exact TcI):p:=h
theorem Tcj{p:Prop}(h:p:=by
 exact TcI):p:=h
theorem wC(l:List UInt8)(k:Int)(w:World)(hs:l.length<=1000000000)(hS:AW w) :
  Calls prog 167 #[.string ⟨l.toArray⟩,.int .i64 k] w fun e w'=>e=.returned (.tuple #[.string ⟨(iK l (dH k)).1.toArray⟩,.int .i64 (iK l (dH k)).2])/\Below w.heap.size w w':=by
 have HS:=aa hS;clear hS;by_cases h1:1<=k/\k<=4
 ·obtain⟨i,hi⟩:∃i:Nat,k=((i+1:Nat):Int):=⟨k.toNat-1,TcN⟩
  subst hi;obtain⟨p,hp⟩:=aj nV i (by show i<4;omega);have hc:w.cell? (0,i+1)=some (.string ⟨p.toArray⟩):=HS.o.2 (i+1) p (by rw[List.getElem?_cons_succ];exact hp);have CH:dH ((i+1:Nat):Int)=p:=by
   unfold dH;rw[aw h1];simp[hp]
  rw[CH];have hpl:p.length<=100:=by
   have:=ct hp;simp only[nV,dr,cY,dg]at this;rcases this with rfl|rfl|rfl|rfl<;>simp
  clear CH hp;have hi5:i<4:=by omega
  go_enter func167,ntmps167
  go_wp2_with fail;refine(dR l p _ hs hpl HS.o).mono ?_;exact Tcj
 have CH:dH k=[]:=by unfold dH;rw[bh h1]
 rw[CH];clear CH;go_enter func167,ntmps167
 by_cases h2:0<=k-1
 ·have h3:¬k<=4:=by omega
  have h4:1<=k:=by omega
  exact Tbv
 have h4:¬1<=k:=by omega
 exact Tbv
theorem Ea(l:List UInt8)(k:Int)(w:World)(hs:l.length<=1000000000)(hS:AW w) :
  Calls prog 166 #[.string ⟨l.toArray⟩,.int .i64 k] w fun e w'=>e=.returned (.tuple #[.string ⟨(iK l (bf k)).1.toArray⟩,.int .i64 (iK l (bf k)).2])/\Below w.heap.size w w':=by
 have HS:=aa hS;clear hS;by_cases h1:0<=k/\k<=7
 ·have h2:k=0\/k=1\/k=2\/k=3\/k=4\/k=5\/k=6\/k=7:=by omega
  go_enter func166,ntmps166;clear h1;rcases h2 with rfl|rfl|rfl|rfl|rfl|rfl|rfl|rfl
  ·have E:(⟨#[95,108,101,103]⟩:ByteArray)++Utf8.encode 48=⟨(bf 0).toArray⟩:=by kernel_rfl
   have hl:(bf 0).length<=100:=by decide
   go_wp2_with fail;refine(dR l (bf 0) _ hs hl HS.o).mono ?_;exact Tcj
  ·have E:(⟨#[95,108,101,103]⟩:ByteArray)++Utf8.encode 49=⟨(bf 1).toArray⟩:=by kernel_rfl
   have hl:(bf 1).length<=100:=by decide
   go_wp2_with fail;refine(dR l (bf 1) _ hs hl HS.o).mono ?_;exact Tcj
  ·have E:(⟨#[95,108,101,103]⟩:ByteArray)++Utf8.encode 50=⟨(bf 2).toArray⟩:=by kernel_rfl
   have hl:(bf 2).length<=100:=by decide
   go_wp2_with fail;refine(dR l (bf 2) _ hs hl HS.o).mono ?_;exact Tcj
  ·have E:(⟨#[95,108,101,103]⟩:ByteArray)++Utf8.encode 51=⟨(bf 3).toArray⟩:=by kernel_rfl
   have hl:(bf 3).length<=100:=by decide
   go_wp2_with fail;refine(dR l (bf 3) _ hs hl HS.o).mono ?_;exact Tcj
  ·have E:(⟨#[95,108,101,103]⟩:ByteArray)++Utf8.encode 52=⟨(bf 4).toArray⟩:=by kernel_rfl
   have hl:(bf 4).length<=100:=by decide
   go_wp2_with fail;refine(dR l (bf 4) _ hs hl HS.o).mono ?_;exact Tcj
  ·have E:(⟨#[95,108,101,103]⟩:ByteArray)++Utf8.encode 53=⟨(bf 5).toArray⟩:=by kernel_rfl
   have hl:(bf 5).length<=100:=by decide
   go_wp2_with fail;refine(dR l (bf 5) _ hs hl HS.o).mono ?_;exact Tcj
  ·have E:(⟨#[95,108,101,103]⟩:ByteArray)++Utf8.encode 54=⟨(bf 6).toArray⟩:=by kernel_rfl
   have hl:(bf 6).length<=100:=by decide
   go_wp2_with fail;refine(dR l (bf 6) _ hs hl HS.o).mono ?_;exact Tcj
  have E:(⟨#[95,108,101,103]⟩:ByteArray)++Utf8.encode 55=⟨(bf 7).toArray⟩:=by kernel_rfl
  have hl:(bf 7).length<=100:=by decide
  go_wp2_with fail;refine(dR l (bf 7) _ hs hl HS.o).mono ?_;exact Tcj
 have CH:bf k=[]:=by unfold bf;rw[bh h1]
 rw[CH];clear CH;go_enter func166,ntmps166
 by_cases h2:0<=k
 ·have h3:¬k<=7:=by omega
  exact Tbv
 exact Tbv
open Go Go.Maps Go.MapKept Go.ChangeMaps
def FJ(v:Value):Option (DataW Value × List MemPlace):=some (.held v,[])
def zK:Option Value->DataW Value
 |some v=>.held v
 |none=>.nil
theorem oQ{o:Option Value}{v:Value}(h:zK o=.held v):o=some v:=by
 cases o with
 |none=>cases h
 |some u=>cases h;rfl
theorem oP{o:Option Value}(h:zK o=.nil):o=none:=by
 cases o with
 |none=>rfl
 |some u=>cases h
def bi(P:Program)(k:TypeId)(w:World)(b n:Nat)(f:Value->Option Value):Prop :=
 ∃D:DataW Value,w.ownsMap P k FJ b n D/\∀key kl,keyOf P k key=some kl->D.atKey kl .nil=zK (f key)
open Classical in
noncomputable def upd(f:Value->Option Value)(key v:Value):Value->Option Value:=fun x=>if x=key then some v else f x
theorem upd_same(f:Value->Option Value)(key v:Value):upd f key v key=some v:=by simp[upd]
theorem bP{f:Value->Option Value}{key v x:Value}(h:x≠key):upd f key v x=f x:=by simp[upd,h]
variable {P:Program}{k:TypeId}{w w':World}{b n:Nat}{f:Value->Option Value}
variable {g:Nat}{t e:TypeId}{key:Value}{kl:Lit}
theorem bi.made(P:Program)(k:TypeId)(w:World):bi P k (w.alloc (.map #[] 0)) w.heap.size 0 (fun _=>none) :=
 ⟨.map [],World.ownsMap_made w P k FJ,fun _ _ _=>rfl⟩
theorem bi.lt(h:bi P k w b n f):b<w.heap.size:=by
 obtain⟨D,h,_⟩:=h;exact h.lt
theorem bi.mono{m:Nat}(h:bi P k w b n f)(hm:n<=m):bi P k w b m f:=by
 obtain⟨D,h,hf⟩:=h;exact⟨D,h.mono hm,hf⟩
theorem bi.block(h:bi P k w b n f)(hb:w'.heap[b]?=w.heap[b]?):bi P k w' b n f:=by
 obtain⟨D,⟨es,clock,h1,h2⟩,hf⟩:=h;exact⟨D,⟨es,clock,hb.trans h1,h2⟩,hf⟩
theorem bi.congr{g:Value->Option Value}(h:bi P k w b n f)(hg:∀key kl,keyOf P k key=some kl->g key=f key):bi P k w b n g:=by
 obtain⟨D,h,hf⟩:=h;exact⟨D,h,fun key kl hk=>by rw[hg key kl hk];exact hf key kl hk⟩
theorem bi.ne(h:bi P k w b n f){cs:Array Value}{z:Nat × Nat}(hg:w.heap[g]?=some (.cells cs t z)):b≠g:=by
 obtain⟨D,⟨es,clock,h1,_⟩,_⟩:=h;rintro rfl;rw[h1]at hg;cases hg
theorem bi.look(h:bi P k w b n f)(K:Keyed P k)(ht:P.underlying t=some (.map k e)){z:Value}(hz:(zeroValue e).run P w=.ok z w)(hkey:keyOf P k key=some kl) :
  (Instr.lookup t (.map (some b)) key false).run P w=.ok ((f key).getD z) w/\(Instr.lookup t (.map (some b)) key true).run P w=.ok (.tuple #[(f key).getD z,.bool (f key).isSome]) w:=by
 obtain⟨D,⟨es,clock,hb,F,_,rfl⟩,hf⟩:=h;have NW:=hf key kl hkey;constructor
 ·rcases Maps.fit_look false K ht hz hb F hkey with⟨hrun,_,hat⟩|⟨e0,y,_,_,hrun,hRv,hat,_⟩
  ·rw[hat]at NW;rw[oP NW.symm];exact hrun
  rw[hat]at NW
  cases hRv
  rw[oQ NW.symm];exact hrun
 rcases Maps.fit_look true K ht hz hb F hkey with⟨hrun,_,hat⟩|⟨e0,y,_,_,hrun,hRv,hat,_⟩
 ·rw[hat]at NW;rw[oP NW.symm];exact hrun
 rw[hat]at NW
 cases hRv
 rw[oQ NW.symm];exact hrun
theorem bi.store(h:bi P k w b n f)(K:Keyed P k)(ht:P.underlying t=some (.map k e))(hn:n<maxLen)(hkey:keyOf P k key=some kl)(v:Value) :
  ∃w',(Instr.mapUpdate t (.map (some b)) key v).run P w=.ok () w'/\bi P k w' b (n+1) (upd f key v)/\w.grownBy w' (some b)/\w'.heap.size=w.heap.size:=by
 obtain⟨D,h,hf⟩:=h;have hm:=h.isMap;obtain⟨w',hrun,h1,h2⟩:=h.store (d:=.held v) (ps:=[]) K ht hn hkey rfl;refine⟨w',hrun,⟨_,h1,fun x kx hx=>?_⟩,h2.grown,?_⟩
 ·by_cases hxk:x=key
  ·subst hxk;rw[hkey]at hx;cases hx
   rw[upd_same,Maps.atKey_put_same hm (K.key hkey)];rfl
  rw[bP hxk,Maps.atKey_put_other (fun e=>hxk (K.inj hx (by rw[e];exact hkey))),hf x kx hx]
 obtain⟨es,c,es',c',_,rfl⟩:=h2;simp[setBlock]
theorem oJ{row:Nat}(h:w.grownBy w' (some row))(hg:g<w.heap.size)(hne:g≠row):w'.heap[g]?=w.heap[g]?:=h.block g hg (fun e=>hne (by injection e))
end Go.Proofs.YtillcmhjhajimaaGreatDoor
namespace Go.Proofs.YtillcmhjhajimaaGreatDoor
open Go.Proofs.Tryz
open Go.RowKit Go.Maps
variable {w w':World}{B bc:Nat}{v:Value}{l:List ByteArray}{g:af}{s:aB}
structure eX where
 least:Int
 greatest:Int
 F9:Bool
 several:Bool
 chunk:Int
 stale:Bool
 pool:Bool
 log:Bool
 mode:Bool
 done:Bool
def shapeOf(k:Int):Option eX :=
 if k=1 then some ⟨1,1,false,true,0,false,false,false,false,false⟩
 else if k=2 then some ⟨2,6,false,true,1,false,false,false,false,false⟩
 else if k=3 then some ⟨2,6,true,false,1024,true,false,true,false,false⟩
 else if k=4 then some ⟨3,6,true,false,1,true,false,false,false,false⟩
 else if k=5 then some ⟨2,2,true,false,64,false,false,false,false,false⟩
 else if k=6 then some ⟨0,0,false,false,0,false,true,false,false,false⟩
 else if k=7 then some ⟨3,3,true,false,64,false,false,false,true,false⟩
 else if k=8 then some ⟨2,2,false,true,0,false,false,false,false,true⟩
 else if k=9 then some ⟨0,0,false,true,0,false,false,false,false,false⟩
 else if k=10 then some ⟨0,0,false,true,0,false,false,false,false,false⟩
 else none
def yu:eX:=⟨0,0,false,false,0,false,false,false,false,false⟩
def Tal(x0:eX):Tab #[.int .i64 x0.least,.int .i64 x0.greatest,.bool x0.F9,.bool x0.several,.int .i64 x0.chunk,.bool x0.stale,.bool x0.pool,.bool x0.log,.bool x0.mode,.bool x0.done]:=⟨⟩
def jR(x:eX):Value:=.agg (Tal x)
def eH:Value->Option Value
 |.int .i64 k=>(shapeOf k).map jR
 |_=>none
def eZ(v:ay):Int:=match v.Gf with
 |[s]=>s.kind
 |_=>0
def fF(n l:Int):Int:=min (n+min (max l 0) 1073741824) 1073741824
def C8(v:ay):Int:=v.Gf.foldl (fun n s=>fF n s.length) 0
def fq(ext ch:Int)(x:eX):Bool :=
 if x.chunk=0 then ch==0 else if x.chunk=1 then decide (1<=ch)&&ext%ch==0 else decide (1<=ch)&&decide (ch<=x.chunk)
def bR(st:Bool)(e:Int)(l:List Int)(i:Nat):Bool:=st&&decide (0<=l.getD i 0)&&decide (l.getD i 0<e)&&(decide (i=0)||decide (l.getD (i-1) 0<l.getD i 0))
def dP(s:aB)(x:eX):Bool:=(List.range s.stale.length).all (bR x.stale (s.Ga.length+if s.log.toList.isEmpty then 0 else 1) s.stale)
def bE(n lo hi:Int)(used:Bool):Bool:=if used then decide (lo<=n)&&decide (n<=hi) else n==0
def bT(x:eX)(a:aR):Bool:=a.vol==x.F9&&(!a.vol||a.start==0)
def bJ(ext:Int)(s:aB)(start:Int):Bool:=match shapeOf s.kind with
 |none=>false
 |some x=>s.start==start&&decide (1<=s.length)&&decide (s.length<=32768)&&decide (x.least<=s.Ga.length)&&decide (s.Ga.length<=x.greatest)&&s.Ga.all (bT x) &&
   fq ext s.chunk x&&(x.log||s.log.toList.isEmpty)&&(x.pool||s.pool.toList.isEmpty)&&dP s x&&bE s.device 1 65535 x.pool&&bE s.mode 1 2 x.mode&&bE s.done 0 s.length x.done &&
   !(s.kind==2&&!(s.length%s.Ga.length==0))&&!(s.kind==4&&!(s.length%(s.Ga.length-1)==0))
def dD(s:aB)(pool:Bool):List ByteArray:=((s.Ga.filter (·.vol)).map (·.on))++(if s.log.toList.isEmpty then [] else [s.log])++(if pool&&s.kind==6 then [s.pool] else [])
def dF(w:World)(B:Nat)(v:Value)(l:List ByteArray):Prop:=w.ownsRow B 9 1 v l.length (l.map Value.string)
theorem dF.nil(w:World)(B:Nat):dF w B (.slice none 0 0) []:=gS w B _ 1
theorem dF.blk(h:dF w B v l)(hk:∀k,v.ownBlock=some k->w'.heap[k]?=w.heap[k]?):dF w' B v l:=aC h hk
theorem dF.below(h:dF w B v l)(hb:Below w.heap.size w w'):dF w' B v l:=h.blk fun k e=>hb.block k (fh h k e).2
theorem dF.rd{ok:Nat->Prop}(h:dF w B v l)(gw:∀b,v.ownBlock=some b->ok b):b6 aF 1 ok w [v] l:=by
 obtain⟨h1,h2⟩:=h;rcases h2 with⟨rfl,hn⟩|⟨g,cap,cur,rfl,hb,hg,vr,hcm,hcs,ht⟩
 ·exact Tcm
 refine⟨some ⟨g,0,none⟩,cap,rfl,vr,Tc4,fun _=>⟨g,0,rfl,(Array.getElem?_eq_some_iff.1 hg).1,gw g rfl,fun i x hx=>⟨[.string x],rfl,rfl,fun j z hz=>?_⟩⟩⟩;have hil:i<l.length:=(List.getElem?_eq_some_iff.1 hx).1;have hc:(l.map Value.string)[i]?=some (Value.string x):=by simp[hx]
 match j,hz with
 |0,hz =>
  obtain rfl:Value.string x=z:=by simpa using hz
  rw[<- ht,ri TcN]at hc;rw[cell_of_row w g (0+i*1+0) cur _ (0,0) hg];simpa using hc
theorem dF.mono{B':Nat}(h:dF w B v l)(hB:B'<=B):dF w B' v l:=by
 exact Tby
theorem dz{ops:Array Oper}{rest:List Oper}{o:Oper}{a:Act}{Q:Exit->Act->World->Prop}(hgd:o.guard=none)(s x:Operand)
  (ho:o.op=.call { callee:=.builtin .append,args:=#[s,x],argTypes:=#[27,27] })
  (B:Nat) (v:Value) (l:List ByteArray) (p:ByteArray) (hs:a.eval s=v) (hown:dF w B v l) (g c:Nat) (hx:a.eval x=.slice (some g) 1 c)
  (hc:w.cell? g=some (.string p)) (hl:l.length<=100000000) (hB:B<=w.heap.size)
  (h:∀v' w',dF w' B v' (l++[p])->Below B w w'->w.grownBy w' v.ownBlock->wpList prog ops Q rest (a.put o.dst v') w'):wpList prog ops Q (o :: rest) a w:=by
 obtain⟨i0,hi,hz0,hz1,hz2⟩:=gg o5;refine tE w hgd s x 27 ho B 9 i0 _ 1 16 underlying27 hi hz0 hz1 hz2 rfl TcQ v l.length (l.map Value.string) hs hown ⟨g,0,none⟩ 1 c [.string p] hx rfl (fun j u hu=>?_) Tc0 TcW TcN hB (fun v' w' ho' hg _=>?_)
 ·rw[iz,eJ]
  match j,hu with
  |0,hu =>
   obtain rfl:Value.string p=u:=by simpa using hu
   exact hc
 refine h v' w' ?_ ((bj B w).grown hg hB (fun k hk=>(fh hown k hk).1)) hg;unfold dF;rw[gl,cD];exact ho'
theorem Tcd{p:Prop}(h:p:=by
 unfold eZ
 match eE:v.Gf,h1,hs with
 |[x],_,hs =>
  obtain rfl:x=s:=by simpa using hs
  rfl):p:=h
theorem Tb5{p:Prop}(h:p:=by
 unfold eZ
 match eE:v.Gf with
 |[x]=>rw[eE]at h1;exact absurd rfl h1
 |[]=>rfl
 |_ :: _ :: _=>rfl):p:=h
theorem Tct{p:Prop}(h:p:=by
 go_wp2;go_ret;exact⟨rfl,HB.o⟩):p:=h
theorem kU{ok:Nat->Prop}(v:ay)(u:List Value)(w:World)(hv:aN ok w u v)(hl:v.Gf.length<=1000000000) :
  Calls prog 122 #[.agg u.toArray] w fun e w'=>e=.returned (.int .i64 (eZ v))/\Below w.heap.size w w':=by
 obtain⟨tv,sv,rfl,ew,fL⟩:=hv;obtain⟨tp,tc,rfl,_,_⟩:=ew.cap;obtain⟨sp,sc,rfl,hsc1,hsc2⟩:=fL.cap;have HS:=aa fL;clear fL;have HB:=aa (ae w (.cells (Taf v tp tc sp sc) 57));by_cases h1:v.Gf.length=1
 ·obtain⟨s,hs⟩:=aj v.Gf 0 TcN;have hk:eZ v=s.kind:=by
   exact Tcd
  obtain⟨b,off,us,rfl,_,cX,ez,eE,hcv⟩:=HS.o.elem hs;obtain⟨a,st,rfl,_,_⟩:=eE;have c2:=(HB.o.cell (p:=⟨b,off+0*11+2,none⟩) cX).trans (hcv 2 _ rfl);rw[Nat.zero_mul,fg]at c2;clear hcv ez hs;rw[hk];clear hk;have hq:((v.Gf.length:Int)==1)=true:=by rw[h1];rfl
  have h2:0<v.Gf.length:=by omega
  have H1:=aa h1;clear h1;go_enter func122,ntmps122;exact Tct
 have hk:eZ v=0:=by
  exact Tb5
 rw[hk];clear hk;have hq:((v.Gf.length:Int)==1)=false:=by simp;omega
 go_enter func122,ntmps122;exact Tct
theorem CV(n d:Int)(w:World)(h0:0<=n)(h1:n<=1000000000000)(h2:1<=d)(h3:d<=1000000) :
  Calls prog 127 #[.int .i64 n,.int .i64 d] w fun e w'=>e=.returned (.int .i64 ((n+d-1)/d))/\w=w':=by
 have hq0:0<=(n+d-1)/d:=lz TcN TcN;have hq1:(n+d-1)/d<=n+d-1:=mS _ TcN;go_enter func127,ntmps127;go_wp2;go_ret;exact⟨rfl,rfl⟩
def pV(a b:ByteArray)(e:Int):Bool:=e==0&&a.toList==b.toList
theorem mJ(a b:ByteArray)(k:Int)(w:World) :
  Calls prog 165 #[.string a,.string b,.int .i64 k] w fun e w'=>e=.returned (.bool (pV a b k))/\w=w':=by
 go_enter func165,ntmps165
 by_cases h:k=0
 ·subst h;go_wp2;go_ret;exact⟨ah (by simp[pV]),rfl⟩
 have h1:(k==0)=false:=by simpa using h
 go_wp2;go_ret;exact⟨ah (by simp[pV,h1]),rfl⟩
theorem di(n lo hi:Int)(used:Bool)(w:World) :
  Calls prog 161 #[.int .i64 n,.int .i64 lo,.int .i64 hi,.bool used] w fun e w'=>e=.returned (.bool (bE n lo hi used))/\w=w':=by
 go_enter func161,ntmps161;cases used with
 |true =>
  by_cases h1:lo<=n
  ·by_cases h2:n<=hi
   ·go_wp2;go_ret;exact⟨ah (by simp[bE,h1,h2]),rfl⟩
   go_wp2;go_ret;exact⟨ah (by simp[bE,h2]),rfl⟩
  go_wp2;go_ret;exact⟨ah (by rw[bE,aw rfl,cN (by omega:¬lo<=n)];rfl),rfl⟩
 |false =>
  go_wp2
  all_goals
   go_ret;exact⟨ah (by simp[bE]),rfl⟩
theorem Be{α β:Type}(f:β->α->β)(b:β)(l:List α)(k:Nat)(x:α)(h:l[k]?=some x):(l.take (k+1)).foldl f b=f ((l.take k).foldl f b) x:=by
 rw[take_snoc' l k x h,List.foldl_append];rfl
theorem lT(n l:Int)(h0:0<=n):0<=fF n l/\fF n l<=1073741824:=by unfold fF;omega
theorem uZ:∀(l:List aB) (n:Int),0<=n->n<=1073741824->0<=l.foldl (fun n s=>fF n s.length) n/\l.foldl (fun n s=>fF n s.length) n<=1073741824
 |[],n,h0,h1=>⟨h0,h1⟩
 |s :: l,n,h0,_=>uZ l _ (lT n s.length h0).1 (lT n s.length h0).2
theorem yz{ok:Nat->Prop}(v:ay)(u:List Value)(w:World)(hv:aN ok w u v)(hl:v.Gf.length<=1000000000) :
  Calls prog 125 #[.agg u.toArray] w fun e w'=>e=.returned (.int .i64 (C8 v))/\Below w.heap.size w w':=by
 obtain⟨tv,sv,rfl,ew,fL⟩:=hv;obtain⟨tp,tc,rfl,_,_⟩:=ew.cap;obtain⟨sp,sc,rfl,hsc1,hsc2⟩:=fL.cap;have HS:=aa fL;clear fL;have HB:=aa (ae w (.cells (Taf v tp tc sp sc) 57));go_enter func125,ntmps125;go_wp2
 go_loopw[3,9] (fun n i wr=>∃k:Nat,k<=v.Gf.length/\i=.int .i64 k/\n=.int .i64 ((v.Gf.take k).foldl (fun n s=>fF n s.length) 0)/\Below w.heap.size w wr) (fun _ i _=>v.Gf.length-(intOf i).toNat)
 exact⟨0,cg _,rfl,rfl,HB.o⟩;obtain⟨k,hk,rfl,rfl,hB⟩:=hrel;have pB:=uZ (v.Gf.take k) 0 TcN TcN;by_cases hlt:k<v.Gf.length
 ·obtain⟨s,hs⟩:=aj v.Gf k hlt;obtain⟨b,off,us,rfl,_,cX,ez,eE,hcv⟩:=HS.o.elem hs;obtain⟨a,st,rfl,mC,hst⟩:=eE;obtain⟨ap,ac,rfl,_,_⟩:=mC.cap;obtain⟨eN,eR,rfl,_,_⟩:=hst.cap;have cT:wr.heap[b]?=w.heap[b]?:=hB.block b cX;obtain⟨q0,q1,q2,q3,q4,q5,q6,q7,q8,q9,q10⟩:=ak5 cT hcv;have HF:=aa (Be (fun n s=>fF n (aB.length s)) 0 v.Gf k s hs);generalize (v.Gf.take k).foldl (fun n s=>fF n (aB.length s)) 0=m at *;clear hcv ez hs cT mC hst;go_wp2;go_roundw;exact⟨k+1,TcN,TcR,by rw[HF.o];rfl,hB.alloc hB.size _⟩;simp[intOf];omega
 obtain rfl:k=v.Gf.length:=by omega
 go_wp2;go_ret;exact⟨cz (by rw[jz (bk _)];rfl),hB⟩
theorem zw(l:List aR)(k:Nat)(x:aR)(h:l[k]?=some x):((l.take (k+1)).filter (·.vol)).map (·.on)=((l.take k).filter (·.vol)).map (·.on)++if x.vol then [x.on] else []:=by
 rw[take_snoc' l k x h,List.filter_append,gl];cases hx:x.vol<;>simp[List.filter_cons,hx]
def Dx(B:Nat)(w:World)(l:List ByteArray)(e:Ending)(w':World):Prop:=∃v,e=.returned v/\dF w' B v l/\Below w.heap.size w w'
theorem kN{ok:Nat->Prop}(s:aB)(pool:Bool)(u:List Value)(w:World)(hv:bC ok w u s)(hl:s.Ga.length<=1000000) :
  Calls prog 123 #[.agg u.toArray,.bool pool] w (Dx w.heap.size w (dD s pool)):=by
 obtain⟨av,Oz,rfl,mC,hst⟩:=hv;obtain⟨ap,ac,rfl,aq0,aq1⟩:=mC.cap;obtain⟨eN,eR,rfl,_,_⟩:=hst.cap;have HA:=aa mC;clear mC hst;have HU:Hid (dD s pool=_):=aa (dD.eq_1 s pool);go_enter func123,ntmps123;go_wp2
 go_loopw[5,11] (fun l i wr=>∃k:Nat,k<=s.Ga.length/\i=.int .i64 k/\dF wr (w.heap.size+1) l (((s.Ga.take k).filter (·.vol)).map (·.on))/\wr.heap[w.heap.size]?=some (.cells (Tae s ap ac eN eR) 88 (0,0))/\Below w.heap.size w wr) (fun _ i _=>s.Ga.length-(intOf i).toNat)
 exact⟨0,cg _,rfl,dF.nil _ _,b9 w _,ae w _⟩;obtain⟨k,hk,rfl,hown,PX,hB⟩:=hrel;have hwr:w.heap.size<wr.heap.size:=aq PX;by_cases hlt:k<s.Ga.length
 ·obtain⟨x,hx⟩:=aj s.Ga k hlt;obtain⟨b,off,us,rfl,_,cX,ez,eE,hcv⟩:=HA.o.elem hx;obtain rfl:us=_:=eE;have cT:wr.heap[b]?=w.heap[b]?:=hB.block b cX;obtain⟨q0,q1,q2⟩:=Mn cT hcv;have HN:=aa (zw s.Ga k x hx);have Q1:(((s.Ga.take k).filter (·.vol)).map (·.on)).length<=1000000:=by
   rw[fW];exact cA (tk _ _) (by rw[ey];omega)
  generalize ((s.Ga.take k).filter (·.vol)).map (·.on)=al at *;have Fc:=aa PX;clear PX;clear hcv ez hx cT;cases I2:x.vol with
  |false =>
   rw[I2]at q0;go_wp2;go_roundw;exact⟨k+1,TcN,TcR,by rw[HN.o,I2];simp only[pj,fY,eM];exact hown.alloc _,(cj _ _ _ hwr).trans Fc.o,hB.alloc hB.size _⟩;simp[intOf];omega
  |true =>
   rw[I2]at q0;have NU:=((ae wr (.cells #[.bool true,.string x.on,.int .i64 x.start] 83)));have HOW:=aa hown;clear hown
   go_wp2_with(at_builtin;refine dz rfl _ _ rfl (w.heap.size+1) _ al x.on rfl ?c1 (wr.heap.size+1) 1 rfl ?c2 TcN ?c3 ?_)
   case c1=>exact(HOW.o.alloc _).alloc _
   case c2=>exact aD TcO rfl
   case c3=>simp;omega
   intro v' w1 hown1 hb1 hg1;have hB1:Below w.heap.size w w1:=((hB.alloc hB.size _).alloc TcS _).trans (hb1.mono TcN);have Vf:=aa ((hb1.block w.heap.size TcN).trans ((cj _ _ _ TcS).trans ((cj _ _ _ hwr).trans Fc.o)));clear hb1 hg1;go_wp2;go_roundw;exact⟨k+1,TcN,TcR,by rw[HN.o,I2];exact hown1,Vf.o,hB1⟩;simp[intOf];omega
 obtain rfl:k=s.Ga.length:=by omega
 rw[jz (bk _)]at hown;have Q1:((s.Ga.filter (·.vol)).map (·.on)).length<=1000000:=by
  rw[fW];exact cA (tk _ _) hl
 generalize (s.Ga.filter (·.vol)).map (·.on)=al at *;have y2:=cr PX 2 _ rfl;have y6:=cr PX 6 _ rfl;have y7:=cr PX 7 _ rfl;have Fc:=aa PX;clear PX;have HOW:=aa hown;clear hown;cases Fi:s.log.toList.isEmpty with
 |true =>
  have al3:(if s.log.toList.isEmpty then([]:List ByteArray) else [s.log])=[]:=by rw[Fi];rfl
  have MR:=aa al3;clear al3;cases pool with
  |false =>
   have HE:Hid (dD s false=al):=aa (by rw[HU.o,MR.o];simp);clear HU;go_wp2;go_ret;exact⟨_,rfl,by rw[HE.o];exact dF.mono HOW.o TcN,hB⟩
  |true =>
   by_cases hk:s.kind=6
   ·have HE:Hid (dD s true=al++[s.pool]):=aa (by rw[HU.o,MR.o,hk];simp);have Vg:(s.kind==6)=true:=by simpa using hk
    have TL:=hB.size;clear HU;go_wp2_with(at_builtin;refine dz rfl _ _ rfl (w.heap.size+1) _ (al) s.pool rfl ?a1 wr.heap.size 1 rfl ?a2 ?a3 ?a4 ?_)
    case a1=>exact HOW.o.alloc _
    case a2=>exact aD rfl rfl
    case a3=>omega
    case a4=>simp;omega
    intro v' w9 hown9 hb9 _;have HO9:=aa hown9;clear hown9;have J1:=aa ((hB.alloc hB.size _).trans (hb9.mono TcN));clear hb9;go_wp2;go_ret;exact⟨_,rfl,by rw[HE.o];exact dF.mono HO9.o TcN,J1.o⟩
   have HE:Hid (dD s true=al):=aa (by rw[HU.o,MR.o];simp[hk]);have Vg:(s.kind==6)=false:=by simpa using hk
   clear HU;go_wp2;go_ret;exact⟨_,rfl,by rw[HE.o];exact dF.mono HOW.o TcN,hB⟩
 |false =>
  have al3:(if s.log.toList.isEmpty then([]:List ByteArray) else [s.log])=[s.log]:=by rw[Fi];rfl
  have MR:=aa al3;clear al3;go_wp2_with(at_builtin;refine dz rfl _ _ rfl (w.heap.size+1) _ al s.log rfl ?d1 wr.heap.size 1 rfl ?d2 TcN ?d3 ?_)
  case d1=>exact HOW.o.alloc _
  case d2=>exact aD rfl rfl
  case d3=>simp;omega
  intro v1 w1 hown1 hb1 _;have HO1:=aa hown1;clear hown1;have hB1:Below w.heap.size w w1:=(hB.alloc hB.size _).trans (hb1.mono TcN);have MS:=(hb1.block w.heap.size TcN).trans ((cj _ _ _ hwr).trans Fc.o);have y2:=cr MS 2 _ rfl;have y7:=cr MS 7 _ rfl;have hw1:w.heap.size<w1.heap.size:=aq MS;clear hb1 MS;cases pool with
  |false =>
   have HE:Hid (dD s false=(al++[s.log])):=aa (by rw[HU.o,MR.o];simp);clear HU;go_wp2;go_ret;exact⟨_,rfl,by rw[HE.o];exact dF.mono HO1.o TcN,hB1⟩
  |true =>
   by_cases hk:s.kind=6
   ·have HE:Hid (dD s true=(al++[s.log])++[s.pool]):=aa (by rw[HU.o,MR.o,hk];simp);have Vg:(s.kind==6)=true:=by simpa using hk
    have TL:=hB1.size;clear HU;go_wp2_with(at_builtin;refine dz rfl _ _ rfl (w.heap.size+1) _ ((al++[s.log])) s.pool rfl ?b1 w1.heap.size 1 rfl ?b2 ?b3 ?b4 ?_)
    case b1=>exact HO1.o.alloc _
    case b2=>exact aD rfl rfl
    case b3=>simp;omega
    case b4=>simp;omega
    intro v' w9 hown9 hb9 _;have HO9:=aa hown9;clear hown9;have J1:=aa ((hB1.alloc hB1.size _).trans (hb9.mono TcN));clear hb9;go_wp2;go_ret;exact⟨_,rfl,by rw[HE.o];simp only[cV,List.cons_append,List.nil_append];exact dF.mono HO9.o TcN,J1.o⟩
   have HE:Hid (dD s true=(al++[s.log])):=aa (by rw[HU.o,MR.o];simp[hk]);have Vg:(s.kind==6)=false:=by simpa using hk
   clear HU;go_wp2;go_ret;exact⟨_,rfl,by rw[HE.o];exact dF.mono HO1.o TcN,hB1⟩
def dm(x:eX):List Value:=[.int .i64 x.least,.int .i64 x.greatest,.bool x.F9,.bool x.several,.int .i64 x.chunk,.bool x.stale,.bool x.pool,.bool x.log,.bool x.mode,.bool x.done]
noncomputable def Ai(f:Func)(n:Nat):Code:=((f.body.bind (kX n)).getD .skip)
structure bN where
 tp:Option Addr
 tc:Nat
 dp:Option Addr
 dc:Nat
 vp:Option Addr
 vc:Nat
 hp:Option Addr
 hc:Nat
def uY(g:af)(a:bN):List Value:=[.string g.name,.int .u64 g.id,.int .i64 g.seq,.int .i64 g.Gd,.int .i64 g.next,.slice a.tp g.tags.length a.tc,.slice a.dp g.Gb.length a.dc,.slice a.vp g.F9.length a.vc,.slice a.hp g.history.length a.hc]
structure aY where
 Gi:Int
 Gh:Int
 Gc:Int
 Gg:Int
 tag:ByteArray
 near:ByteArray
 sep:ByteArray
structure dK(r:aY):Prop where
 l:-9223372036854775808<=r.Gi/\r.Gi<=9223372036854775807
 s:-9223372036854775808<=r.Gh/\r.Gh<=9223372036854775807
 e:-9223372036854775808<=r.Gc/\r.Gc<=9223372036854775807
 p:-9223372036854775808<=r.Gg/\r.Gg<=9223372036854775807
 t:r.tag.size<=9223372036854775807
 n:r.near.size<=9223372036854775807
 q:r.sep.size<=9223372036854775807
structure dN(ok:Nat->Prop)(w:World)(g:af)(a:bN):Prop where
 tags:b6 aF 1 ok w [.slice a.tp g.tags.length a.tc] g.tags
 Gb:b6 aO 7 ok w [.slice a.dp g.Gb.length a.dc] g.Gb
 F9:b6 aN 6 ok w [.slice a.vp g.F9.length a.vc] g.F9
 hist:b6 lF 3 ok w [.slice a.hp g.history.length a.hc] g.history
variable {a:bN}
theorem dN.mv{ok ok':Nat->Prop}(h:dN ok w g a)(hm:Mv ok ok' w w'):dN ok' w' g a :=
 ⟨(b6.moves aF.moves).mv hm h.tags,(b6.moves aO.moves).mv hm h.Gb,(b6.moves aN.moves).mv hm h.F9,(b6.moves lF.moves).mv hm h.hist⟩
theorem pF:Keyed prog 3:=int_keyed underlying3
def gY(w:World)(bc:Nat)(g:af)(a:bN):Prop :=
 ∃sm,w.heap[bc]?=some (.cells #[.string g.name,.int .u64 g.id,.int .i64 g.seq,.int .i64 g.Gd,.int .i64 g.next,.slice a.tp g.tags.length a.tc,.slice a.dp g.Gb.length a.dc,.slice a.vp g.F9.length a.vc,.slice a.hp g.history.length a.hc,.map (some sm)] 121 (0,0)) /\
  bi prog 3 w sm 10 eH
theorem gY.below(h:gY w bc g a)(hb:Below w.heap.size w w'):gY w' bc g a:=by
 obtain⟨sm,h1,h2⟩:=h;exact⟨sm,(hb.block _ (aq h1)).trans h1,h2.block (hb.block _ h2.lt)⟩
theorem gY.lt(h:gY w bc g a):bc<w.heap.size:=by
 obtain⟨sm,h1,_⟩:=h;exact aq h1
theorem uG(w:World):(zeroValue 159).run prog w=.ok (jR yu) w:=by kernel_rfl
def oO(k:Int):eX:=(shapeOf k).getD yu
theorem uA(k:Int):(eH (.int .i64 k)).getD (jR yu)=jR (oO k):=by
 rw[show eH (.int .i64 k)=(shapeOf k).map jR from rfl];unfold oO;cases shapeOf k<;>rfl
variable {x:eX}
theorem lu(h:shapeOf 2=some x):x.least=2:=by cases h;rfl
theorem kC(h:shapeOf 4=some x):x.least=3:=by cases h;rfl
theorem Mv.of{ok:Nat->Prop}(hb:Below w.heap.size w w'):Mv ok ok w w':=⟨hb.size,fun b hb' ho=>⟨ho,hb.block b hb'⟩⟩
theorem jT{ext:Int}{start:Int}(h:shapeOf s.kind=none):bJ ext s start=false:=by unfold bJ;rw[h]
theorem jP{ext:Int}{start:Int}(h:shapeOf s.kind=some x):bJ ext s start=(s.start==start&&decide (1<=s.length)&&decide (s.length<=32768)&&decide (x.least<=s.Ga.length)&&decide (s.Ga.length<=x.greatest)&&s.Ga.all (bT x) &&
   fq ext s.chunk x&&(x.log||s.log.toList.isEmpty)&&(x.pool||s.pool.toList.isEmpty)&&dP s x&&bE s.device 1 65535 x.pool&&bE s.mode 1 2 x.mode&&bE s.done 0 s.length x.done &&
   !(s.kind==2&&!(s.length%s.Ga.length==0))&&!(s.kind==4&&!(s.length%(s.Ga.length-1)==0))):=by unfold bJ;rw[h]
end Go.Proofs.YtillcmhjhajimaaGreatDoor
