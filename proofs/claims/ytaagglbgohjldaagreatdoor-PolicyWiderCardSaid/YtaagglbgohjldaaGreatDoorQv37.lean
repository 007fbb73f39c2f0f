/- Lemmas: SpG, BltG. -/
import Derived.Test.YtaagglbgohjldaaGreatDoorQv36
set_option maxRecDepth 100000
set_option maxHeartbeats 32000000
set_option linter.all false
namespace Go.Proofs.YtaagglbgohjldaaGreatDoor
open Go.RowKit
variable {l l':List aB}{id c e n kind s:Int}{ns:List ByteArray}{ls lengths next next' n0 a b:List Int}{ps:List (ByteArray × Int × Int)}{vl tl:List ay}{name:ByteArray}{k j i:Nat}{x:aB}{g g' g0:af}{Gb:List az}
def xe (s:aB):Prop:=(0<=s.length/\s.length<=1000000)/\s.Ga.length<=1000/\(fP s->∀ a∈s.Ga,a.vol=false)
def uC (v:ay):Prop:=v.Gf.length<=1000/\∀ s∈v.Gf,xe s
theorem TdD {p:Prop}(h:p:=by simp [dE]):p:=h
theorem uE (n:Int)(on:ByteArray)(s:Int)(h:0<=n/\n<=1000):xe (dE n on s):=⟨TdJ,TdD,fun _ a ha=>by
 obtain rfl:a=⟨false,on,s⟩:=by simpa [dE] using ha
 rfl⟩
theorem BJ (name:ByteArray)(id:Int)(hd:Bool)(n:Int)(on:ByteArray)(s:Int)(h:0<=n/\n<=1000):uC (eD name id hd n on s):=⟨by simp [eD],fun x hx=>by
 obtain rfl:x=dE n on s:=by simpa [eD] using hx
 exact uE n on s h⟩
theorem TcY {p:Prop}(h:p:=by simp [aV]):p:=h
theorem fB.ok (h:fB l l')(hl:∀ s∈l,xe s):∀ s∈l',xe s:=by
 induction h with
 | nil=>exact hl
 | void _ hn hk ih =>
  intro s hs;rcases List.mem_append.1 hs with q | q
  ·exact ih s q
  obtain rfl:=List.mem_singleton.1 q;exact ⟨Tc9,TcY,fun _ a ha=>by simp [aV] at ha⟩
 | lin _ hn ih =>
  intro s hs;rcases List.mem_append.1 hs with q | q
  ·exact ih s q
  obtain rfl:=List.mem_singleton.1 q;refine ⟨Tc9,TcY,fun _ a ha=>?_⟩;simp only [aV,dr,cY,dg] at ha;rw [ha]
 | move _ hn _ ih =>
  intro s hs;rcases List.mem_append.1 hs with q | q
  ·exact ih s q
  obtain rfl:=List.mem_singleton.1 q;refine ⟨Tc9,TcY,fun _ a ha=>?_⟩;simp only [aV,dr,cY,dg] at ha;rcases ha with rfl | rfl <;> rfl
theorem lD.ok (h:lD id c ns ls ps vl)(hl:∀ l∈ls,1<=l/\l<=1000):∀ v∈vl,uC v:=by
 induction h with
 | nil=>intro v hv;cases hv
 | snoc h ih =>
  intro v hv;rcases List.mem_append.1 hv with q | q
  ·exact ih (fun l hl'=>hl l (ju _ hl')) v q
  obtain rfl:=List.mem_singleton.1 q;have:=hl _ (P9 _ (List.mem_singleton.2 rfl));exact BJ _ _ _ _ _ _ TcC
theorem iO.ok (h:iO id name k c j tl):∀ v∈tl,uC v:=by
 induction h with
 | nil=>intro v hv;cases hv
 | snoc h hl ih =>
  intro v hv;rcases List.mem_append.1 hv with q | q
  ·exact ih v q
  obtain rfl:=List.mem_singleton.1 q;refine ⟨by simp [jY],fun s hs=>?_⟩;obtain rfl:=List.mem_singleton.1 hs;exact ⟨TcJ,TcD,fun _ a ha=>by simp at ha⟩
theorem ik.seg {names:List ByteArray}(h:ik e n name kind names lengths x)(hn:1<=n/\n<=3):xe x:=by
 have nd:∀ k:Int,k=3\/k=4\/k=5\/k=7->¬ (k=1\/k=2\/k=8):=fun k h=>by omega
 cases h with
 | mirror k hk c hc st hst=>exact ⟨TcJ,Tda,fun q=>absurd q (nd 3 TcC)⟩
 | mirrorLog k hk c hc st hst=>exact ⟨TcJ,Tda,fun q=>absurd q (nd 3 TcC)⟩
 | parity k hk c hc =>
  refine ⟨?_,Tda,fun q=>absurd q (nd 4 TcC)⟩;dsimp only;rcases (show n=1\/n=2\/n=3 by omega) with rfl | rfl | rfl <;> omega
 | pool l c hl hc=>exact ⟨TcJ,by simp [gB],fun q=>absurd q (nd 5 TcC)⟩
 | cache l m c hl hm hc=>exact ⟨TcJ,by simp [gB],fun q=>absurd q (nd 7 TcC)⟩
theorem Td3 {p:Prop}(h:p:=by simp only [ic];omega):p:=h
theorem iy.ok (h:iy name g next g' next')(he:1<=g.Gd/\g.Gd<=16)(hv:∀ v∈g.F9,uC v):∀ v∈g'.F9,uC v:=by
 cases h with
 | linF=>exact hv
 | lin hn h1 hm hl h2 hs =>
  intro v hv';rcases List.mem_append.1 hv' with q | q
  ·exact hv v q
  obtain rfl:=List.mem_singleton.1 q;exact ⟨TcJ,hm.ok fun s hs=>by obtain rfl:=List.mem_singleton.1 hs;exact uE _ _ _ TcC⟩
 | strF h=>exact hv
 | @str k n al next' hk hn hl ha h =>
  intro v hv';rcases List.mem_append.1 hv' with q | q
  ·exact hv v q
  obtain rfl:=List.mem_singleton.1 q;refine ⟨by simp [mf],fun s hs=>?_⟩;obtain rfl:=List.mem_singleton.1 hs;refine ⟨?_,Td3,fun _ a h=>ha a (by simpa [ic] using h)⟩;simp only [ic];rcases (show n=1\/n=2 by omega) with rfl | rfl <;> omega
 | compF h=>exact hv
 | comp AK hn hR hH hT ht hk hk5 Mf =>
  intro v hv';have hl:=(hR.ok he.1 he.2 hn.1 hn.2).2.2;rcases List.mem_append.1 hv' with q | q
  ·rcases List.mem_append.1 q with q | q
   ·rcases List.mem_append.1 q with q | q
    ·exact hv v q
    exact hH.ok hl v q
   obtain rfl:=List.mem_singleton.1 q;exact ⟨TcD,fun s hs=>by obtain rfl:=List.mem_singleton.1 hs;exact hR.seg hn⟩
  exact Mf.ok v q
theorem bZ.ok {c:Nat}(h0:g0.F9=[]/\g0.next=0)(he:1<=g0.Gd/\g0.Gd<=16)(hd:DOk g0.Gb n0)(h:bZ c g0 n0 i g next):∀ v∈g.F9,uC v:=by
 induction h with
 | nil=>rw [h0.1];intro v hv;cases hv
 | @step i g g' next next' h hs ih=>exact hs.ok (by rw [(bZ.bd h0 he hd h).same.2.2.2.1];exact he) ih
theorem fZ.bd (h:fZ Gb a ps b)(k:DOk Gb a):∀ q∈ps,0<=q.2.1/\q.2.1<=1000:=by
 induction h with
 | nil=>intro q hq;cases hq
 | snoc h hd hm h1 h2 h3 ih =>
  intro q hq;rcases List.mem_append.1 hq with q1 | q1
  ·exact ih q q1
  obtain rfl:=List.mem_singleton.1 q1;have:=(h.ok k).nx _ _ hm;have:=(h.ok k).ext _ (ct hd);dsimp only;omega
theorem fB.tail (h:fB l l'):∃ r,l'=l++r/\∀ x∈r,x.kind≠2/\x.Ga.length<=2:=by
 induction h with
 | nil=>exact ⟨[],TcD,fun x hx=>by cases hx⟩
 | @void l' n kind _ hn hk ih =>
  obtain ⟨r,e,h⟩:=ih;refine ⟨r++[aV (bg l') n kind [] 0],by rw [e,cV],fun x hx=>?_⟩;rcases List.mem_append.1 hx with q | q
  ·exact h x q
  obtain rfl:=List.mem_singleton.1 q;exact ⟨Tc9,TcY⟩
 | @lin l' n s on _ hn ih =>
  obtain ⟨r,e,h⟩:=ih;refine ⟨r++[aV (bg l') n 1 [⟨false,on,s⟩] 0],by rw [e,cV],fun x hx=>?_⟩;rcases List.mem_append.1 hx with q | q
  ·exact h x q
  obtain rfl:=List.mem_singleton.1 q;exact ⟨TcY,TcY⟩
 | @move l' n s s' dn on on' _ hn hd ih =>
  obtain ⟨r,e,h⟩:=ih;refine ⟨r++[aV (bg l') n 8 [⟨false,on,s⟩,⟨false,on',s'⟩] dn],by rw [e,cV],fun x hx=>?_⟩;rcases List.mem_append.1 hx with q | q
  ·exact h x q
  obtain rfl:=List.mem_singleton.1 q;exact ⟨TcY,TcY⟩
def zg (v:ay):Prop:=(∀ p∈aW v,0<=p.start/\p.start<=1000)/\(aW v).length<=12
theorem jq (name:ByteArray)(s:aB):(aK name s).length<=s.Ga.length:=by
 unfold aK;split <;> simp
theorem gK {s:aB}{p:gy}(h:p∈aK name s):fP s/\∃ a∈s.Ga,p=aJ name s a:=by
 unfold aK at h;split at h
 ·rename_i ho;obtain ⟨a,ha,rfl⟩:=List.mem_map.1 h;exact ⟨ho,a,ha,rfl⟩
 cases h
theorem gV {α β:Type}(f:α->List β)(m:Nat):∀ l:List α,(∀ x∈l,(f x).length<=m)->(l.flatMap f).length<=l.length*m
 | [],_=>by simp
 | x :: l,h=>by
  have h1:=h x (cG ..);have h2:=gV f m l fun y hy=>h y (kn _ hy);rw [lB,cD,cS,Oy];omega
theorem TdS {p:Prop}(h:p:=by rw [e];simp):p:=h
theorem um {v:ay}(h:∀ s∈v.Gf,¬ fP s):zg v:=by
 have e:aW v=[]:=List.eq_nil_iff_forall_not_mem.2 fun p hp=>by
  obtain ⟨s,hs,hp⟩:=List.mem_flatMap.1 hp;exact h s hs (gK hp).1
 exact ⟨(by rw [e];intro p hp;cases hp),TdS⟩
theorem DU (name:ByteArray)(id:Int)(hd:Bool)(n:Int)(on:ByteArray)(s:Int)(h:0<=s/\s<=1000):zg (eD name id hd n on s):=by
 refine ⟨fun p hp=>?_,?_⟩
 ·obtain ⟨x,hx,hp⟩:=List.mem_flatMap.1 hp;obtain rfl:=List.mem_singleton.1 hx;obtain ⟨_,a,ha,rfl⟩:=gK hp;obtain rfl:=List.mem_singleton.1 ha;exact h
 have:=gV (aK name) 1 [dE n on s] fun x hx=>by obtain rfl:=List.mem_singleton.1 hx;exact jq _ _
 exact cA this TcD
theorem lD.pc (h:lD id c ns ls ps vl)(hl:∀ q∈ps,0<=q.2.1/\q.2.1<=1000):∀ v∈vl,zg v:=by
 induction h with
 | nil=>intro v hv;cases hv
 | snoc h ih =>
  intro v hv;rcases List.mem_append.1 hv with q | q
  ·exact ih (fun l hl'=>hl l (ju _ hl')) v q
  obtain rfl:=List.mem_singleton.1 q;exact DU _ _ _ _ _ _ (hl _ (P9 _ (List.mem_singleton.2 rfl)))
theorem iO.pc (h:iO id name k c j tl):∀ v∈tl,zg v:=by
 induction h with
 | nil=>intro v hv;cases hv
 | snoc h hl ih =>
  intro v hv;rcases List.mem_append.1 hv with q | q
  ·exact ih v q
  obtain rfl:=List.mem_singleton.1 q;refine um fun s hs=>?_;obtain rfl:=List.mem_singleton.1 hs;rintro (q | q | q) <;> simp at q
theorem iy.pc (h:iy name g next g' next')(hk:DOk g.Gb next)(hv:∀ v∈g.F9,zg v):∀ v∈g'.F9,zg v:=by
 cases h with
 | linF=>exact hv
 | @lin n s on next1 next' Gf ps hn h1 hm hl h2 hs =>
  intro v hv';rcases List.mem_append.1 hv' with q | q
  ·exact hv v q
  obtain rfl:=List.mem_singleton.1 q;obtain ⟨r,e,hr⟩:=hm.tail;subst e;have b1:=h1.bd hk _ (List.mem_singleton.2 rfl);have b2:=h2.bd (h1.ok hk);simp only [cD,cS,Ox] at hl;refine ⟨fun p hp=>?_,?_⟩
  ·obtain ⟨x,hx,hp⟩:=List.mem_flatMap.1 hp;obtain ⟨ho,a,ha,rfl⟩:=gK hp;rcases List.mem_append.1 hx with hx | hx
   ·obtain rfl:=List.mem_singleton.1 hx;obtain rfl:=List.mem_singleton.1 ha;exact b1
   have hk2:=(hr x hx).1;have OU:x.kind=1\/x.kind=8:=by
    rcases ho with q | q | q
    ·exact .inl q
    ·exact absurd q hk2
    exact .inr q
   refine b2 (a.on,a.start,x.length) (hs.subset ?_);refine List.mem_flatMap.2 ⟨x,hx,?_⟩;unfold iG;rw [aw OU];exact List.mem_map.2 ⟨a,ha,rfl⟩
  have:=gV (aK name) 2 ([dE n on s]++r) fun x hx=>by
   refine cA (jq _ _) ?_;rcases List.mem_append.1 hx with hx | hx
   ·obtain rfl:=List.mem_singleton.1 hx;simp [dE]
   exact (hr x hx).2
  refine cA this ?_;simp only [cD,cS,Ox];omega
 | strF h=>exact hv
 | @str k n al next' hk' hn hl ha h =>
  intro v hv';rcases List.mem_append.1 hv' with q | q
  ·exact hv v q
  obtain rfl:=List.mem_singleton.1 q;have b:=h.bd hk;refine ⟨fun p hp=>?_,?_⟩
  ·obtain ⟨x,hx,hp⟩:=List.mem_flatMap.1 hp;obtain rfl:=List.mem_singleton.1 hx;obtain ⟨_,a,ha',rfl⟩:=gK hp;exact b (a.on,a.start,n) (List.mem_map.2 ⟨a,by simpa [ic] using ha',rfl⟩)
  have:=gV (aK name) 3 [ic k n al] fun x hx=>by
   obtain rfl:=List.mem_singleton.1 hx;refine cA (jq _ _) ?_;simp only [ic];omega
  exact cA this TcD
 | compF h=>exact hv
 | comp AK hn hR hH hT ht hk' hk5 Mf =>
  intro v hv';rcases List.mem_append.1 hv' with q | q
  ·rcases List.mem_append.1 q with q | q
   ·rcases List.mem_append.1 q with q | q
    ·exact hv v q
    exact hH.pc (hT.bd hk) v q
   obtain rfl:=List.mem_singleton.1 q;refine um fun s hs=>?_;obtain rfl:=List.mem_singleton.1 hs;cases hR <;> (rintro (q | q | q) <;> simp at q)
  exact Mf.pc v q
theorem bZ.pc {c:Nat}(h0:g0.F9=[]/\g0.next=0)(he:1<=g0.Gd/\g0.Gd<=16)(hd:DOk g0.Gb n0)(h:bZ c g0 n0 i g next):∀ v∈g.F9,zg v:=by
 induction h with
 | nil=>rw [h0.1];intro v hv;cases hv
 | @step i g g' next next' h hs ih =>
  have b:=bZ.bd h0 he hd h;exact hs.pc (by rw [b.same.2.2.2.2.2.1];exact b.dk) ih
structure Fv (g:af):Prop where
 dl:g.Gb.length<=4
 dtags:∀ D∈g.Gb,D.tags.length<=1000
 dext:∀ D∈g.Gb,0<=D.Gc/\D.Gc<=60
 dfind:∀ (i:Nat) (D:az),g.Gb[i]?=some D->bH g.Gb D.name=some D
 vl:g.F9.length<=44
 tame:qx g.F9
 ps:∀ p∈pieces g.F9,0<=p.start/\p.start<=1000
 pn:(pieces g.F9).length<=1000
theorem Fq (hi:i<=3)(hj:j<=3)(h:NI++digit i=NI++digit j):i=j:=by
 have h2:=fj (fun b:ByteArray=>b.data.toList) h;rcases (show i=0\/i=1\/i=2\/i=3 by omega) with rfl | rfl | rfl | rfl <;> rcases (show j=0\/j=1\/j=2\/j=3 by omega) with rfl | rfl | rfl | rfl <;> first | rfl | (exfalso;revert h2;decide)
theorem Tch {p:Prop}(h:p:=by
 obtain ⟨k,hk⟩:=fc hD;have:=(hdk k D hk).ext;simp only [dr,cY,dg] at this;omega):p:=h
theorem sU.tame (h:sU g):Fv g:=by
 obtain ⟨c,g0,g1,next,hc,_,_,_,ah9,hn0,_,hv0,_,CD,hdk,ye,hg,_,_⟩:=h.ex;have hex:1<=g0.Gd/\g0.Gd<=16:=by
  simp only [dr,cY,dg] at ah9;omega
 have vu:∀ D∈g0.Gb,0<=D.Gc/\D.Gc<=60:=fun D hD=>by
  exact Tch
 have ND:DOk g0.Gb (List.replicate g0.Gb.length 0):=⟨TcD,TcC,TcC,fun D hD=>by have:=vu D hD;omega,fun d m hm=>by
  have:=ct hm;rw [tM] at this;omega⟩
 have b:=bZ.bd ⟨hv0,hn0⟩ hex ND ye;have ok:=bZ.ok ⟨hv0,hn0⟩ hex ND ye;have pc:=bZ.pc ⟨hv0,hn0⟩ hex ND ye;have ed:g.Gb=g0.Gb:=by rw [hg];exact b.same.2.2.2.2.2.1
 have ev:g.F9=g1.F9:=by rw [hg]
 have mb:=b.F9;have S8:g1.F9.length<=44:=by omega
 refine ⟨by rw [ed];omega,fun D hD=>?_,fun D hD=>vu D (ed ▸ hD),fun i D hD=>?_,by rw [ev];exact S8,by rw [ev];exact ok,fun p hp=>?_,?_⟩
 ·rw [ed] at hD;obtain ⟨k,hk⟩:=fc hD;have:=(hdk k D hk).tags.length_le;have e:iQ.length=4:=rfl;omega
 ·rw [ed] at hD ⊢;have hi:=(List.getElem?_eq_some_iff.1 hD).1;refine pR (k:=i) (fun j E hj hE e=>?_) hD rfl;rw [(hdk j E hE).name,(hdk i D hD).name] at e;have:=Fq TcC TcC e;omega
 ·rw [ev] at hp;obtain ⟨v,hv,hp⟩:=List.mem_flatMap.1 hp;exact (pc v hv).1 p hp
 rw [ev];have:=gV aW 12 g1.F9 fun v hv=>(pc v hv).2;unfold pieces;omega
theorem iq:es.size<=100:=by decide
structure XX (s:aB):Prop where
 ar:s.Ga.length<=8
 st:s.stale.length<=8
 kd:0<=s.kind/\s.kind<=10
 lg:s.log.size<=100
 pl:s.pool.size<=100
 on:∀ a∈s.Ga,a.on.size<=100
 dv:0<=s.device/\s.device<=10
structure QC (v:ay):Prop where
 nm:v.name.size<=100
 tg:List.Sublist v.tags iQ
 sl:v.Gf.length<=8
 sg:∀ s∈v.Gf,XX s
theorem fZ.on (h:fZ Gb a ps b):∀ q∈ps,∃ D∈Gb,q.1=D.name:=by
 induction h with
 | nil=>intro q hq;cases hq
 | snoc h hd hm h1 h2 h3 ih =>
  intro q hq;rcases List.mem_append.1 hq with q1 | q1
  ·exact ih q q1
  obtain rfl:=List.mem_singleton.1 q1;exact ⟨_,ct hd,rfl⟩
theorem Eo {on:ByteArray}(h:on.size<=100):XX (dE n on s) :=
 ⟨TdD,TdD,TdJ,iq,iq,fun a ha=>by
  obtain rfl:a=⟨false,on,s⟩:=by simpa [dE] using ha
  exact h,TdJ⟩
theorem Ed {hd:Bool}{on:ByteArray}(hn:name.size<=100)(h:on.size<=100):QC (eD name id hd n on s) :=
 ⟨hn,List.nil_sublist _,by simp [eD],fun x hx=>by
  obtain rfl:x=dE n on s:=by simpa [eD] using hx
  exact Eo h⟩
structure FB (s:aB):Prop where
 ar:s.Ga.length<=8
 st:s.stale=[]
 kd:0<=s.kind/\s.kind<=10
 lg:s.log=es
 pl:s.pool=es
 dv:s.device=0
 on:(s.kind=1\/s.kind=8)\/s.Ga=[]
theorem fB.pre (h:fB l l')(hl:∀ s∈l,FB s):∀ s∈l',FB s:=by
 induction h with
 | nil=>exact hl
 | void _ hn hk ih =>
  intro s hs;rcases List.mem_append.1 hs with q | q
  ·exact ih s q
  obtain rfl:=List.mem_singleton.1 q;exact ⟨TcY,rfl,Tc9,rfl,rfl,rfl,.inr rfl⟩
 | lin _ hn ih =>
  intro s hs;rcases List.mem_append.1 hs with q | q
  ·exact ih s q
  obtain rfl:=List.mem_singleton.1 q;exact ⟨TcY,rfl,Tc9,rfl,rfl,rfl,.inl (.inl rfl)⟩
 | move _ hn _ ih =>
  intro s hs;rcases List.mem_append.1 hs with q | q
  ·exact ih s q
  obtain rfl:=List.mem_singleton.1 q;exact ⟨TcY,rfl,Tc9,rfl,rfl,rfl,.inl (.inr rfl)⟩
theorem lD.vin (h:lD id c ns ls ps vl)(hn:∀ n∈ns,n.size<=100)(hp:∀ q∈ps,q.1.size<=100):∀ v∈vl,QC v:=by
 induction h with
 | nil=>intro v hv;cases hv
 | snoc h ih =>
  intro v hv;rcases List.mem_append.1 hv with q | q
  ·exact ih (fun n hn'=>hn n (ju _ hn')) (fun n hn'=>hp n (ju _ hn')) v q
  obtain rfl:=List.mem_singleton.1 q;exact Ed (hn _ (P9 _ (List.mem_singleton.2 rfl))) (hp _ (P9 _ (List.mem_singleton.2 rfl)))
theorem iO.vin (h:iO id name k c j tl)(hn:name.size<=90)(hk:k<=2):∀ v∈tl,QC v:=by
 induction h with
 | nil=>intro v hv;cases hv
 | snoc h hl ih =>
  intro v hv;rcases List.mem_append.1 hv with q | q
  ·exact ih v q
  obtain rfl:=List.mem_singleton.1 q;have:=h.len;refine ⟨?_,List.nil_sublist _,by simp [jY],fun s hs=>?_⟩
  ·show ((name++tT)++digit _).size<=100;rw [CA,CA];have e1:tT.size=1:=rfl;have e2:∀ i,(digit i).size=1:=fun _=>rfl;rw [e2];omega
  obtain rfl:=List.mem_singleton.1 hs;exact ⟨TcD,TcD,TcJ,iq,TcJ,fun a ha=>by simp at ha,TcJ⟩
theorem BM (name:ByteArray)(i:Nat):(Ex name i).size=name.size+5:=by
 unfold Ex;rw [CA,CA];rfl
theorem gN :∀ n∈aI name k,n.size<=name.size+5:=fun n hn=>by
 obtain ⟨i,_,rfl⟩:=List.mem_map.1 hn;rw [BM];omega
theorem vN {l:List ByteArray}{m:Nat}(h:∀ n∈l,n.size<=m):∀ a∈gB l,a.on.size<=m:=fun a ha=>by
 obtain ⟨n,hn,rfl⟩:=List.mem_map.1 ha;exact h n hn
theorem mX (name s:ByteArray)(h:s.size<=5):(name++s).size<=name.size+5:=by
 rw [CA];omega
theorem ik.names {names:List ByteArray}(h:ik e n name kind names lengths x):∀ m∈names,m.size<=name.size+5:=by
 cases h with
 | mirror k hk c hc st hst=>exact gN
 | mirrorLog k hk c hc st hst =>
  intro m hm;rcases List.mem_append.1 hm with q | q
  ·exact gN m q
  obtain rfl:=List.mem_singleton.1 q;exact mX _ _ TcF
 | parity k hk c hc=>exact gN
 | pool l c hl hc =>
  intro m hm;simp only [dr,cY,dg] at hm;rcases hm with rfl | rfl <;> exact mX _ _ TcF
 | cache l m c hl hm hc =>
  intro m hm;simp only [dr,cY,dg] at hm;rcases hm with rfl | rfl | rfl <;> exact mX _ _ TcF
theorem ik.sin {names:List ByteArray}(h:ik e n name kind names lengths x)(hn:name.size<=90):XX x:=by
 have hm:=h.names;have hst:∀ {st:List Int} {k:Nat},(st=[]\/∃ i:Int,0<=i/\i<k/\st=[i])->st.length<=8:=fun h=>by
  rcases h with rfl | ⟨_,_,_,rfl⟩ <;> simp
 have hl:∀ k:Nat,∀ a∈gB (aI name k),a.on.size<=100:=fun k=>vN fun n hn'=>by have:=gN n hn';omega
 cases h with
 | mirror k hk c hc st hs=>exact ⟨Tda,hst hs,TcJ,iq,iq,hl k,TcJ⟩
 | mirrorLog k hk c hc st hs =>
  have:=mX name qm TcF;exact ⟨Tda,hst hs,TcJ,TcJ,iq,hl k,TcJ⟩
 | parity k hk c hc=>exact ⟨Tda,TcD,TcJ,iq,iq,hl k,TcJ⟩
 | pool l c hl hc=>exact ⟨by simp [gB],TcD,TcJ,iq,iq,vN fun n hn'=>by have:=hm n hn';omega,TcJ⟩
 | cache l m c hl hm' hc=>exact ⟨by simp [gB],TcD,TcJ,iq,iq,vN fun n hn'=>by have:=hm n hn';omega,TcJ⟩
theorem iy.vin (h:iy name g next g' next')(hn:name.size<=10)(hd:∀ D∈g.Gb,D.name.size<=100)(hv:∀ v∈g.F9,QC v):∀ v∈g'.F9,QC v:=by
 cases h with
 | linF=>exact hv
 | @lin n s on next1 next' Gf ps hn' h1 hm hl h2 hs =>
  intro v hv';rcases List.mem_append.1 hv' with q | q
  ·exact hv v q
  obtain rfl:=List.mem_singleton.1 q;obtain ⟨r,e,hr⟩:=hm.tail;have hp:=hm.pre fun s hs=>by
   obtain rfl:=List.mem_singleton.1 hs;exact ⟨TdD,rfl,TdJ,rfl,rfl,rfl,.inl (.inl rfl)⟩
  subst e;refine ⟨TcJ,List.nil_sublist _,TcJ,fun x hx=>?_⟩;obtain ⟨p1,p2,p3,p4,p5,p6,p7⟩:=hp x hx;refine ⟨p1,by rw [p2];simp,p3,by rw [p4];exact iq,by rw [p5];exact iq,fun a ha=>?_,by rw [p6];omega⟩;rcases List.mem_append.1 hx with hx | hx
  ·obtain rfl:=List.mem_singleton.1 hx;obtain rfl:=List.mem_singleton.1 ha;obtain ⟨D,hD,e⟩:=h1.on _ (List.mem_singleton.2 rfl);show on.size<=100;rw [show on=D.name from e];exact hd D hD
  rcases p7 with hk | hk
  ·have:(a.on,a.start,x.length)∈ps:=hs.subset (List.mem_flatMap.2 ⟨x,TdL,by
    unfold iG;rw [aw hk];exact List.mem_map.2 ⟨a,ha,rfl⟩⟩)
   obtain ⟨D,hD,e⟩:=h2.on _ this;rw [show a.on=D.name from e];exact hd D hD
  rw [hk] at ha
  cases ha
 | strF h=>exact hv
 | @str k n al next' hk hn' hl ha h =>
  intro v hv';rcases List.mem_append.1 hv' with q | q
  ·exact hv v q
  obtain rfl:=List.mem_singleton.1 q;refine ⟨by simp only [mf];omega,List.nil_sublist _,by simp [mf],fun s hs=>?_⟩;obtain rfl:=List.mem_singleton.1 hs;refine ⟨Td3,by simp [ic],Td3,iq,iq,fun a ha'=>?_,Td3⟩;obtain ⟨D,hD,e⟩:=h.on (a.on,a.start,n) (List.mem_map.2 ⟨a,by simpa [ic] using ha',rfl⟩);rw [show a.on=D.name from e];exact hd D hD
 | compF h=>exact hv
 | comp AK hn' hR hH hT ht hk hk5 Mf =>
  intro v hv';rcases List.mem_append.1 hv' with q | q
  ·rcases List.mem_append.1 q with q | q
   ·rcases List.mem_append.1 q with q | q
    ·exact hv v q
    exact hH.vin (fun m hm=>by have:=hR.names m hm;omega) (fun q hq=>by
     obtain ⟨D,hD,e⟩:=hT.on q hq;rw [e];exact hd D hD) v q
   obtain rfl:=List.mem_singleton.1 q;exact ⟨TcJ,ht,TcD,fun s hs=>by obtain rfl:=List.mem_singleton.1 hs;exact hR.sin TcC⟩
  exact Mf.vin TcC hk v q
theorem bZ.vin {c:Nat}(h0:g0.F9=[]/\g0.next=0)(he:1<=g0.Gd/\g0.Gd<=16)(hd:DOk g0.Gb n0)(Pc:∀ D∈g0.Gb,D.name.size<=100)(h:bZ c g0 n0 i g next):∀ v∈g.F9,QC v:=by
 induction h with
 | nil=>rw [h0.1];intro v hv;cases hv
 | @step i g g' next next' h hs ih =>
  have b:=bZ.bd h0 he hd h;exact hs.vin (by show 1<=10;omega) (by rw [b.same.2.2.2.2.2.1];exact Pc) ih
theorem pX {l:List ByteArray}(h:List.Sublist l iQ):TI l:=⟨by have:=h.length_le;have e:iQ.length=4:=rfl;omega,fun s hs=>by
 have:=h.subset hs;simp only [iQ,dr,cY,dg] at this;rcases this with rfl | rfl | rfl | rfl <;> decide⟩
theorem xq {k:Int}(h:0<=k/\k<=10):(Lit.int .i64 k).wf=true:=by
 rcases (show k=0\/k=1\/k=2\/k=3\/k=4\/k=5\/k=6\/k=7\/k=8\/k=9\/k=10 by omega) with rfl | rfl | rfl | rfl | rfl | rfl | rfl | rfl | rfl | rfl | rfl <;> rfl
theorem sU.gin (h:sU g):NL g:=by
 obtain ⟨c,g0,g1,next,hc,hname,_,_,ah9,hn0,S9,hv0,_,CD,hdk,ye,hg,hh1,Zj⟩:=h.ex;have hex:1<=g0.Gd/\g0.Gd<=16:=by
  simp only [dr,cY,dg] at ah9;omega
 have vu:∀ D∈g0.Gb,0<=D.Gc/\D.Gc<=60:=fun D hD=>by
  exact Tch
 have Pc:∀ D∈g0.Gb,D.name.size<=100:=fun D hD=>by
  obtain ⟨k,hk⟩:=fc hD;rw [(hdk k D hk).name,CA];have e1:NI.size=2:=rfl;have e2:(digit k).size=1:=rfl;omega
 have ND:DOk g0.Gb (List.replicate g0.Gb.length 0):=⟨TcD,TcC,TcC,fun D hD=>by have:=vu D hD;omega,fun d m hm=>by
  have:=ct hm;rw [tM] at this;omega⟩
 have b:=bZ.bd ⟨hv0,hn0⟩ hex ND ye;have vi:=bZ.vin ⟨hv0,hn0⟩ hex ND Pc ye;have ed:g.Gb=g0.Gb:=by rw [hg];exact b.same.2.2.2.2.2.1
 have ev:g.F9=g1.F9:=by rw [hg]
 have en:g.name=vgT:=by rw [hg];exact b.same.1.trans hname
 have et:g.tags=g0.tags:=by rw [hg];exact b.same.2.2.2.2.1
 have mb:=b.F9;have S8:g1.F9.length<=44:=by omega
 have Zn:∀ d∈g.Gb,TI d.tags:=fun d hd=>by
  rw [ed] at hd;obtain ⟨k,hk⟩:=fc hd;exact pX (hdk k d hk).tags
 refine ⟨⟨by rw [en];decide,by rw [et];exact pX S9,by rw [ed];omega,by rw [ev];omega,TcC,fun d hd=>⟨by rw [ed] at hd;have:=Pc d hd;omega,Zn d hd⟩,fun v hv=>?_,fun x hx=>?_⟩,⟨by rw [ed];omega,fun d hd=>(Zn d hd).1,by rw [ev];omega,fun v hv=>?_⟩,fun v hv s hs=>?_,fun v hv s hs=>?_⟩
 ·rw [ev] at hv;have q:=vi v hv;exact ⟨by have:=q.nm;omega,pX q.tg⟩
 ·obtain ⟨i,_,_,rfl⟩:=Zj x hx;show BQ.size<=_;decide
 ·rw [ev] at hv;have q:=vi v hv;exact ⟨(pX q.tg).1,by have:=q.sl;omega,fun s hs=>⟨by have:=(q.sg s hs).ar;omega,by have:=(q.sg s hs).st;omega⟩⟩
 ·rw [ev] at hv;exact xq ((vi v hv).sg s hs).kd
 rw [ev] at hv;have q:=(vi v hv).sg s hs;exact ⟨by have:=q.lg;omega,by have:=q.pl;omega,fun a ha=>by have:=q.on a ha;omega,xq q.dv⟩
end Go.Proofs.YtaagglbgohjldaaGreatDoor
