/- Lemmas: MkJ, MkK, MkQ, SpA, FlI. -/
import Derived.Test.YtillcmhjhajimaaGreatDoorQj02
import Derived.OrdersIn
set_option maxRecDepth 100000
set_option maxHeartbeats 32000000
set_option linter.all false
namespace Go.Proofs.YtillcmhjhajimaaGreatDoor
open Go.Proofs.Tryz
open Go.RowKit
variable {X Y ok':Nat->Prop}{w w' wr w2:World}{bs bb N sz B gb bytes:Nat}{nv vv rK rN v z:Value}{g g':af}{t e:TypeId}{cs:List Value}{next':List Int}{α:Type}{i0:TypeInfo}{vl:List ay}{p:Option Addr}
def ic(k n:Int)(al:List aR):aB:=⟨0,k*n,2,al,1,[],es,es,0,0,0⟩
def mf(name:ByteArray)(id k n:Int)(al:List aR):ay:=⟨name,id,false,false,[],[ic k n al]⟩
def UO(n:Int)(al:List aR):List (ByteArray × Int × Int):=al.map fun a=>(a.on,a.start,n)
def F6(X:Nat->Prop)(bs bb:Nat)(nv vv:Value)(g:af)(next:List Int)(name:ByteArray)(w:World)(w':World):Prop :=
 (∃ps next',fZ g.Gb next ps next'/\aH X bs bb nv vv w w' nv vv g next') \/
 ∃(k n:Int) (al:List aR) (next':List Int) (pA:Value),2<=k/\k<=3/\1<=n/\n<=2/\(al.length:Int)=k/\(∀a∈al,a.vol=false)/\fZ g.Gb next (UO n al) next' /\
  aH X bs bb nv vv w w' nv pA { g with next:=g.next+1,F9:=g.F9++[mf name (oX g.id (g.next+1)) k n al] } next'
theorem eW.c0{next:List Int}(h:eW X w bs bb nv vv g next):w.cell? bb=some (.pointer (some bs)):=by
 exact Tcn
def dS(N:Nat)(t:TypeId)(cs:List Value)(b:Nat)(w:World):Prop:=N<=b/\w.heap[b]?=some (.cells cs.toArray t (0,0))
def rS(N:Nat)(w w':World):Prop:=w.heap.size<=w'.heap.size/\∀k,N<=k->k<w.heap.size->w'.heap[k]?=w.heap[k]?
theorem dS.ev{b:Nat}(h:dS N t cs b w)(he:rS N w w'):dS N t cs b w':=⟨h.1,(he.2 b h.1 (aq h.2)).trans h.2⟩
theorem dS.new(h:N<=w.heap.size):dS N t cs w.heap.size (w.alloc (.cells cs.toArray t)):=⟨h,b9 w _⟩
theorem rS.alloc(N:Nat)(w:World)(o:Obj):rS N w (w.alloc o):=⟨TcO,fun k _ h=>cj _ _ _ h⟩
theorem rS.refl(N:Nat)(w:World):rS N w w:=⟨bk _,fun _ _ _=>rfl⟩
structure CS(Y:Nat->Prop)(bs bb:Nat)(rK rN nv vv:Value)(w wr:World)(g:af)(next:List Int)(w':World):Prop where
 post:aH Y bs bb rK rN w w' nv vv g next
 size:wr.heap.size<=w'.heap.size
 same:∀k,Y k->w'.heap[k]?=wr.heap[k]?
 oks:∀k,k<wr.heap.size->okB Y bb nv vv k->w'.heap[k]?=wr.heap[k]?
theorem CS.alloc{next:List Int}(h:CS Y bs bb rK rN nv vv w wr g next w')(o:Obj):CS Y bs bb rK rN nv vv w wr g next (w'.alloc o) :=
 ⟨h.post.after (ae _ _),cA h.size TcO,fun k hk=>(cj _ _ _ (h.post.bld.xlt k hk).2).trans (h.same k hk),fun k hk ho=>(cj _ _ _ (cC hk h.size)).trans (h.oks k hk ho)⟩
theorem CS.step{next:List Int}(h:CS Y bs bb rK rN nv vv w wr g next w')(q:aH Y bs bb nv vv w' w2 nv vv g' next'):CS Y bs bb rK rN nv vv w wr g' next' w2 :=
 ⟨h.post.trans q,cA h.size q.mod.size,fun k hk=>(q.loc h.post.bld hk).trans (h.same k hk),fun k hk ho=>(q.loc' h.post.bld ho (cC hk h.size)).trans (h.oks k hk ho)⟩
theorem CS.ev{next:List Int}(h:eW Y wr bs bb nv vv g next)(q:aH Y bs bb nv vv w' w2 nv vv g' next'):rS wr.heap.size w' w2 :=
 ⟨q.mod.size,fun k h1 h2=>q.mod.block k h2 (h.nfp h1)⟩
def rZ(X:Nat->Prop)(L:Nat)(av:Value):Nat->Prop:=fun k=>X k\/k=L\/av.ownBlock=some k
theorem aH.pushOwn{V:jx α}{ok:Nat->Prop}{w1:World}{L i cap:Nat}{av:Value}{next:List Int}{l:List α}{p:α}{u:List Value}(h:aH (rZ X L av) bs bb rK rN w w1 nv vv g next)
  (hL:w.heap.size<=L) (MM:L<w1.heap.size) (hB:L<B) (B4:∀b,av.ownBlock=some b->B<=b) (hp:jN V sz t B ok w1 av l p u gb cap w2) :
  aH (rZ X L (.slice (some gb) (l.length+1) cap)) bs bb rK rN w (w2.setCell (L,i) (.slice (some gb) (l.length+1) cap)) nv vv g next/\w2.heap[L]?=w1.heap[L]?/\gb≠L/\B<=gb:=by
 have hgb:B<=gb/\gb<w2.heap.size:=by
  obtain⟨cs,ho,_⟩:=hp.own;exact ho.lt gb rfl
 refine⟨h.move (((cR.mk hp.grown.os hp.grown.tape hp.grown.output hp.grown.size fun k hk hn=>hp.grown.block k hk fun e=>hn ⟨.inr (.inr e.symm),?_⟩:cR (fun k=>rZ X L av k/\w.heap.size<=k) w1 w2)).setCell (p:=⟨L,i,none⟩) (.inl ⟨.inr (.inl rfl),hL⟩) _) (fun k hk=>?_),hp.grown.block L MM (fun e=>by have:=B4 L e.symm;omega),TcN,hgb.1⟩
 ·have:=B4 k e.symm;omega
 rcases hk with q|q|q
 ·exact .inl (.inl q)
 ·exact .inl (.inr (.inl q))
 obtain rfl:gb=k:=by injection q
 rcases hp.at' with q|q
 ·exact .inl (.inr (.inr q))
 exact .inr ⟨TcN,by simp[World.setCell];omega⟩
def TaH(x0:ByteArray)(x1:Int)(x2:Option Addr):Tab #[.string x0,.int .u64 x1,.bool false,.bool false,.slice none 0 0,.slice x2 1 1]:=⟨⟩
theorem vX(X:Nat->Prop)(bs bb:Nat)(nv vv:Value)(g:af)(next:List Int)(w:World)(h:eW X w bs bb nv vv g next)(hk:BOk g next)(name:ByteArray) :
  Calls prog 16 #[.pointer (some bb),.string name] w (fun e w'=>e=.returned (.tuple #[])/\F6 X bs bb nv vv g next name w w'):=by
 have k0:=hk.n0;have k1:=hk.n1;have k2:=hk.dk.pos;have k3:=hk.dk.le;have k4:=hk.vl;have c0:=h.c0;have cX:=h.Gj;have gO:=h.lt;have sy:¬bb=bs:=by omega
 go_enter func16,ntmps16;go_wp2;refine aZ (fun w'=>w'.cell? bb=some (.pointer (some bs))) 10 [0,1,2,5,6,7] TcP c0 (fun hHeld=>?_);refine fz 0 ?_;refine fz 1 ?_;refine fz 2 ?_;refine fz 5 ?_;refine fz 6 ?_;refine fz 7 ?_;refine fS 3 hHeld ?_;refine fS 8 hHeld ?_;refine lR 4 fun K hK=>?_;go_simp;refine(bO bs 2 3 _ TcN TcN TcN (h.below ((bj _ _).drew)).src).mono ?_;rintro e w1 ⟨v,rfl,hv1,hv2,hs,hm⟩;refine hK.o _ _ ((hm.cell (p:=bb) cX sy).trans c0) ?_;clear hK K;refine lR 9 fun K hK=>?_;go_simp;have OS:bb<w1.heap.size:=cC cX hm.size;refine(bO bs 1 2 _ TcN TcN TcN hs).mono ?_;rintro e w2 ⟨n,rfl,hn1,hn2,hs2,hm2⟩;refine hK.o _ _ ((hm2.cell (p:=bb) OS sy).trans ((hm.cell (p:=bb) cX sy).trans c0)) ?_;clear hK K;refine aP TcP rfl ?_;simp only[cQ,cL];have P2:aH X bs bb nv vv w w2 nv vv g next:=((aH.refl h).drewN 1).read hs hm |>.read hs2 hm2;clear hm hm2 hs hs2;obtain⟨v,rfl⟩:∃u:Nat,v=u:=⟨v.toNat,TcN⟩;have hb1:0<=(v:Int)*n/\(v:Int)*n<=6:=by rcases(show n=1\/n=2 by omega)with rfl|rfl<;>omega
 have hb2:=hb1.1;have hb3:=hb1.2;clear hb1;go_wp2;have TP:w.heap.size<=w2.heap.size:=P2.mod.size;have P3:=P2.fresh (Y:=rZ X w2.heap.size (.slice none 0 0)) (ae w2 (.cells #[.int .i64 0,.int .i64 (v*n),.int .i64 2,.slice none 0 0,.int .i64 1,.slice none 0 0,.string es,.string es,.int .i64 0,.int .i64 0,.int .i64 0] 88)) (by
  rintro k (q|rfl|q)
  ·exact .inl q
  ·exact .inr ⟨bk _,TcO⟩
  cases q)
 have HL:=aa (b9 w2 (.cells #[.int .i64 0,.int .i64 (v*n),.int .i64 2,.slice none 0 0,.int .i64 1,.slice none 0 0,.string es,.string es,.int .i64 0,.int .i64 0,.int .i64 0] 88));generalize hL:w2.heap.size=L at *;have ZM:=aa hL;clear hL;go_loopw[7] (fun i wr=>∃(k:Nat) (av:Value) (al:List aR) (next':List Int),k<=v/\i=.int .i64 k/\al.length=k/\(∀a∈al,a.vol=false)/\fZ g.Gb next (UO n al) next'/\aH (rZ X L av) bs bb nv vv w wr nv vv g next'/\bF aQ 3 83 (L+1) (fun _=>False) wr av al /\
   wr.heap[L]?=some (.cells #[.int .i64 0,.int .i64 (v*n),.int .i64 2,av,.int .i64 1,.slice none 0 0,.string es,.string es,.int .i64 0,.int .i64 0,.int .i64 0] 88 (0,0))) (fun i _=>v-(intOf i).toNat)
 case atStart=>exact⟨0,_,[],_,TcN,rfl,rfl,TcO,.nil _,P3,⟨[],gS _ _ _ 3,rfl⟩,HL.o⟩
 obtain⟨k,av,al,next',Tt,rfl,Q1,pS,DB,P,B4,K0⟩:=hrel;have NQ:=aa K0;clear K0;have HV:=aa pS;clear pS;have Qb:=aa Q1;clear Q1;have dk:=DB.ok hk.dk;obtain⟨dp,ir,c7,l1,l2⟩:=P.bld.c7;by_cases hlt:k<v
 ·have oY:(k:Int)%(g.Gb.length:Int)=((k%g.Gb.length:Nat):Int):=by simp
  have CD:k%g.Gb.length<g.Gb.length:=Nat.mod_lt _ k2;generalize hd:k%g.Gb.length=d at *;have ZN:=aa hd;clear hd;obtain⟨D,hD⟩:=aj g.Gb d CD;obtain⟨m,hm⟩:=aj next' d (by rw[dk.len];exact CD);have QK:=dk.nx d m hm;have HD:=aa hD;clear hD;have HM:=aa hm;clear hm;go_wp2_with fail;refine(qR (rZ X L av) bs bb nv vv _ next' _ P.bld d D m n HD.o HM.o QK.1 TcN TcN TcN).mono ?_;rintro e w3 (⟨rfl,Q,_⟩|⟨s,hs1,hs2,rfl,Q,_⟩)
  ·go_wp2;refine eC (results_none rfl _ _ _) rfl ⟨rfl,.inl ⟨_,_,DB,((P.trans Q).after (ae _ _)).fewer (fun k hk=>.inl hk)⟩⟩
  have R3:=P.trans Q;have QP:=aa ((Q.loc P.bld (.inr (.inl rfl))).trans NQ.o);have QQ:bF aQ 3 83 (L+1) (fun _=>False) w3 av al:=by
   obtain⟨cs,ho,hf⟩:=B4;exact⟨cs,aC ho fun b e=>Q.loc P.bld (.inr (.inr e)),Flat.moves aQ.moves ⟨Q.mod.size,fun _ _ f=>f.elim⟩ _ _ hf⟩
  have MM:L<w3.heap.size:=aq QP.o;have ZV:∀o,(w3.alloc o).cell? (Tac L 3)=some av:=fun o=>by simp[World.cell?,cj _ _ _ MM,QP.o]
  obtain⟨i0,hi,hz0,hz1,hz2⟩:=gg kL;have HI:=aa hi;clear hi;have H0:=aa hz0;clear hz0;have H1:=aa hz1;clear hz1;have H2:=aa hz2;clear hz2;have Rn:al.length<=1000000:=by have:=Qb.o;omega
  have ay6:Below w3.heap.size w3 ((w3.alloc (.cells (Tas D.name s) 83)).alloc (.cells (Tas D.name s) 83)):=((bj _ _).alloc (bk _) _).alloc TcO _;go_wp2_with(at_builtin;refine dX aQ.moves underlying86 HI.o H0.o H1.o H2.o rfl TcQ TcQ rfl _ _ rfl (L+1) (fun _=>False) av al ⟨false,D.name,s⟩ rfl ?c1 (w3.heap.size+1) 1 [.bool false,.string D.name,.int .i64 s] rfl rfl rfl ?c2 ?c3 Rn ?c4 (fun _ _ f=>f) ?_)
  case c1 =>
   obtain⟨cs,ho,hf⟩:=QQ;exact⟨cs,eF ho fun i h1 h2=>ay6.block i h2,Flat.moves aQ.moves ⟨ay6.size,fun _ _ f=>f.elim⟩ _ _ hf⟩
  case c2=>simp[Value.oneCell']
  case c3 =>
   intro j y hy;exact aD TcO Tc6
  case c4=>simp;omega
  intro gb cap w4 hp;obtain⟨R5,e4,K2,TR⟩:=(R3.after ay6).pushOwn (i:=3) TP (by have:=ay6.size;omega) (Nat.lt_succ_self L) (fun b e=>by
   obtain⟨cs,ho,_⟩:=QQ;exact(ho.lt b e).1) hp
  have e5:=e4.trans (ay6.block L MM);have y3:=(cd (w:=w3) (w':=w4) (a:=⟨L,3,none⟩) e5).trans (show w3.cell? (Tac L 3)=some av by simp[World.cell?,QP.o]);have yf:=(rh (w:=w3) (w':=w4) (a:=⟨L,3,none⟩) e5).trans (show w3.frozen? (Tac L 3)=false by simp[World.frozen?,QP.o]);have ZW:=aa (e5.trans QP.o);have HP:=aa hp;clear hp e4 e5 ZV;go_wp2;go_roundw
  case rel =>
   refine⟨k+1,_,al++[⟨false,D.name,s⟩],_,TcN,TcR,by rw[cD,Qb.o];rfl,fun a ha=>?_,?_,R5,?_,?_⟩
   ·rcases List.mem_append.1 ha with q|q
    ·exact HV.o a q
    simp at q;rw[q]
   ·rw[UO,gl];exact .snoc DB HD.o HM.o hs1 hs2 hn1
   ·obtain⟨cs,ho,hf⟩:=HP.o.own;refine⟨cs,aC ho fun b e=>?_,Flat.moves aQ.moves ⟨TcY,fun _ _ f=>f.elim⟩ _ _ hf⟩;obtain rfl:gb=b:=by injection e
    exact bw _ _ _ _ K2
   exact block_setCell (cs:=#[_,_,_,_,_,_,_,_,_,_,_]) (i:=3) _ ZW.o
  simp[intOf];omega
 obtain rfl:k=v:=by omega
 have c8:=P.bld.c8;have MM:L<wr.heap.size:=aq NQ.o;have qL:=cr NQ.o;obtain⟨q0,q1,q2,q3,q4,q5,q6,q7,q8,q9,q10⟩:=IC qL;have ZQ:=aa qL;clear qL;go_wp2;refine aZ (fun w'=>w'.cell? (Tac bb 8)=some vv/\w'.cell? L=some (.int .i64 0)/\w'.cell? (Tac L 1)=some (.int .i64 (k*n))/\w'.cell? (Tac L 2)=some (.int .i64 2)/\w'.cell? (Tac L 3)=some av/\w'.cell? (Tac L 4)=some (.int .i64 1)/\w'.cell? (Tac L 5)=some (.slice none 0 0)/\w'.cell? (Tac L 6)=some (.string es)/\w'.cell? (Tac L 7)=some (.string es)/\w'.cell? (Tac L 8)=some (.int .i64 0)/\w'.cell? (Tac L 9)=some (.int .i64 0)/\w'.cell? (Tac L 10)=some (.int .i64 0)) 13 [0,1,2,3,4,6,7] TcP (by simp[c8,q0,q1,q2,q3,q4,q5,q6,q7,q8,q9,q10]) (fun hHeld=>?_);refine fz 0 ?_;refine fz 1 ?_;refine fz 2 ?_;refine fz 3 ?_;refine fz 4 ?_;refine fz 6 ?_;refine fz 7 ?_;refine fS 5 hHeld ?_;refine fS 9 hHeld ?_;generalize ay7:oX g.id (g.next+1)=mz;have Mp:=aa ay7;clear ay7;clear q0 q1 q2 q3 q4 q5 q6 q7 q8 q9 q10 c8 c7;have HC0:CS (rZ X L av) bs bb nv vv nv vv w wr.drew g next' wr.drew:=⟨P.drewN 1,bk _,fun _ _=>rfl,fun _ _ _=>rfl⟩
 have U4:bF aQ 3 83 (L+1) (fun _=>False) wr.drew av al:=by
  obtain⟨cs,ho,hf⟩:=B4;exact⟨cs,ho,Flat.moves (ok:=fun _=>False) (w:=wr) (w':=wr.drew) aQ.moves ⟨bk _,fun _ _ f=>f.elim⟩ _ _ hf⟩
 generalize hwr:wr.drew=wd at *;have pB:eW (rZ X L av) wd bs bb nv vv g next':=HC0.post.bld;have ZX:Hid (wd.heap[L]?=some (.cells #[.int .i64 0,.int .i64 (k*n),.int .i64 2,av,.int .i64 1,.slice none 0 0,.string es,.string es,.int .i64 0,.int .i64 0,.int .i64 0] 88 (0,0))):=by
  rw[<- hwr];exact NQ.o
 clear hwr;refine fE (idx:=[(8,59),(10,61),(11,62),(12,63)])
  (fun i=>[i]) (fun i vs w'=>match i with
   |8=>vs 8=.int .u64 mz
   |10=>∃b,vs 10=.slice (some ⟨b,0,none⟩) 1 1/\dS wd.heap.size 88 [.int .i64 0,.int .i64 (k*n),.int .i64 2,av,.int .i64 1,.slice none 0 0,.string es,.string es,.int .i64 0,.int .i64 0,.int .i64 0] b w'
   |11=>∃b,vs 11=.agg (TaH name mz (some ⟨b,0,none⟩))/\dS wd.heap.size 88 [.int .i64 0,.int .i64 (k*n),.int .i64 2,av,.int .i64 1,.slice none 0 0,.string es,.string es,.int .i64 0,.int .i64 0,.int .i64 0] b w'
   |12=>∃c b,vs 12=.slice (some ⟨c,0,none⟩) 1 1/\dS wd.heap.size 57 [.string name,.int .u64 mz,.bool false,.bool false,.slice none 0 0,.slice (some ⟨b,0,none⟩) 1 1] c w'/\dS wd.heap.size 88 [.int .i64 0,.int .i64 (k*n),.int .i64 2,av,.int .i64 1,.slice none 0 0,.string es,.string es,.int .i64 0,.int .i64 0,.int .i64 0] b w'
   |_=>True)
  (fun d w'=>CS (rZ X L av) bs bb nv vv nv vv w wd { g with next:=if d 8=true then g.next+1 else g.next } next' w') (fun _=>rS wd.heap.size) TcP rfl ?cs ?st (fun _ _ _ _ h=>h) ?c0 ?ob ?fin
 case c0=>exact HC0
 case cs =>
  intro d w' hC;have e:=(hC.same L (.inr (.inl rfl))).trans ZX.o;refine⟨hC.post.bld.c8,?_⟩;simp[World.cell?,e]
 case st =>
  intro p hp q _ _ vs us w1 w2 ha hF he;simp only[dr,cY,dg]at hp;rcases hp with rfl|rfl|rfl|rfl
  ·exact(ha 8 (cG ..)).trans hF
  ·obtain⟨b,e,hb⟩:=hF;exact⟨b,(ha 10 (cG ..)).trans e,hb.ev he⟩
  ·obtain⟨b,e,hb⟩:=hF;exact⟨b,(ha 11 (cG ..)).trans e,hb.ev he⟩
  obtain⟨c,b,e,hc,hb⟩:=hF;exact⟨c,b,(ha 12 (cG ..)).trans e,hc.ev he,hb.ev he⟩
 case ob =>
  refine kA.cons (deps:=[]) rfl rfl TcP (fun vs d w' h0 hC hF K hK=>?_) ?_
  ·clear hF;simp only at h0;simp only[h0,pj,fY]at hC;have hb:=hC.post.bld;simp only[over,cq,Act.put];go_simp;refine(vS (rZ X L av) bs bb nv vv g next' w' hb TcN TcN).mono ?_;rintro e w2 ⟨rfl,q⟩;refine hK.o (.int .u64 (oX g.id (g.next+1))) w2 ?_ (CS.ev pB q) ((aw rfl).trans (fj (Value.int .u64) Mp.o)) _ ?_
   ·simp only[h0,nj,BEq.rfl,ej];exact hC.step q
   simp only[over,cq,aS]
  refine kA.cons (deps:=[]) rfl rfl TcP (fun vs d w' h0 hC hF K hK=>?_) ?_
  ·clear hF;simp only[over,cq,Act.put];go_simp;refine hK.o (.slice (some w'.heap.size) 1 1) _ ?_ (rS.alloc _ _ _) ⟨_,aw rfl,dS.new hC.size⟩ _ ?_
   ·simp only[show(d 8||(8:Nat)==10)=d 8 from by simp];exact hC.alloc _
   simp only[over,cq,aS]
  refine kA.cons (deps:=[(8,59),(10,61)]) rfl rfl TcP (fun vs d w' h0 hC hF K hK=>?_) ?_
  ·have f8:=(hF (8,59) TcO).2;have f10:=(hF (10,61) TcO).2;clear hF;simp only[over,cq,cF,aS]at f8 f10 ⊢;obtain⟨b,e10,hb⟩:=f10;rw[f8,e10]at ⊢;go_simp;refine hK.o (.agg (TaH name mz (some ⟨b,0,none⟩))) _ ?_ (rS.refl _ _) ⟨_,aw rfl,hb⟩ _ ?_
   ·simp only[show(d 8||(8:Nat)==11)=d 8 from by simp];exact hC
   simp only[over,cq,cF,aS,f8,e10]
  refine kA.cons (deps:=[(11,62)]) rfl rfl TcP (fun vs d w' h0 hC hF K hK=>?_) trivial;have f11:=(hF (11,62) TcO).2;clear hF;simp only[over,cq,cF,aS]at f11 ⊢;obtain⟨b,e11,hb⟩:=f11;rw[e11]at ⊢;go_simp;refine hK.o (.slice (some w'.heap.size) 1 1) _ ?_ (rS.alloc _ _ _) ⟨_,b,aw rfl,dS.new hC.size,hb.ev (rS.alloc _ _ _)⟩ _ ?_
  ·simp only[show(d 8||(8:Nat)==12)=d 8 from by simp];exact hC.alloc _
  simp only[over,cq,cF,aS,e11]
 case fin =>
  intro vs d w' hC hF;have f8:=(hF (8,59) TcO).2;have f10:=(hF (10,61) TcO).2;have f11:=(hF (11,62) TcO).2;have f12:=(hF (12,63) TcO).2;have hd8:=(hF (8,59) TcO).1;clear hF;simp only[over,cq,cF,aS,cQ,cL]at f8 f10 f11 f12 hd8 ⊢;obtain⟨c,b,e12,hc,hb⟩:=f12;rw[e12];simp only[hd8,ej]at hC;generalize vs 8=v8;generalize vs 10=v10;generalize vs 11=v11;clear f8 f10 f11 hd8 e12;have P':aH X bs bb nv vv w w' nv vv { g with next:=g.next+1 } next':=hC.post.fewer fun k hk=>.inl hk
  have TS:eW X wd bs bb nv vv g next':=pB.fewer fun k hk=>.inl hk;have hbl:=P'.bld.Gj
  have RA:b6 aQ 3 (okB X bb nv vv) w' [av] al:=by
   have ha:bF aQ 3 83 (L+1) (fun _=>False) w' av al:=by
    obtain⟨cs,ho,hf⟩:=U4;exact⟨cs,aC ho fun b e=>hC.same b (.inr (.inr e)),Flat.moves aQ.moves ⟨hC.size,fun _ _ f=>f.elim⟩ _ _ hf⟩
   refine ha.rd aQ.moves TcQ (fun _ _ f=>f.elim) (fun b e=>⟨(pB.xlt b (.inr (.inr e))).1,fun q=>pB.xn b q (.inr (.inr e)),fun q=>pB.xv b q (.inr (.inr e)),fun hx=>?_⟩);obtain⟨cs,ho,_⟩:=ha;have:=(ho.lt b e).1;have:=(h.xlt b hx).2;omega
  have RV:aN (okB X bb nv vv) w' [.string name,.int .u64 mz,.bool false,.bool false,.slice none 0 0,.slice (some b) 1 1] (mf name mz k n al) :=
   ⟨_,_,rfl,b6.nil,b6.one hb.2 (TS.okNew hb.1) rfl ⟨_,_,rfl,RA,b6.nil⟩⟩
  have kf:=P'.bld.ready RV w' (bj _ _);obtain⟨i0,hi,hz0,hz1,hz2⟩:=gg zT;refine dX aN.moves underlying29 hi hz0 hz1 hz2 rfl TcQ TcQ rfl _ _ TcT (bb+1) (fun b=>okB X bb nv vv b/\b<w'.heap.size) vv g.F9 (mf name mz k n al) TcT kf.1 c 1 [.string name,.int .u64 mz,.bool false,.bool false,.slice none 0 0,.slice (some ⟨b,0,none⟩) 1 1] TcT TcT kf.2 Tc0 (fun j y hy=>?_) TcN TcN H8 (fun gb cap w3 hp=>?_)
  ·simp only[World.cell?,hc.2];simpa using hy
  obtain⟨hx1,hx2⟩:=P'.bld.pushKeeps (bj _ _) hp;have y8:=(cd (w:=w') (w':=w3) (a:=⟨bb,8,none⟩) hx1).trans P'.bld.c8;have yf:=(rh (w:=w') (w':=w3) (a:=⟨bb,8,none⟩) hx1).trans (P'.bld.bfr 8);have R5:=P'.push (bj _ _) hp (bk _);clear hp hx1 hx2 kf RV RA hC hc hb hi hz0 hz1 hz2;simp only[aS];go_wp2;go_end0
  have hv:=Mp.o;subst hv;exact⟨rfl,.inr ⟨k,n,al,next',_,hv1,hv2,hn1,hn2,by rw[Qb.o],HV.o,DB,R5⟩⟩
def iL{α:Type}(V:jx α)(sz:Nat)(ok:Nat->Prop)(w:World)(v:Value)(l:List α):Prop :=
 ∃b olds,v=.slice (some ⟨b,0,none⟩) l.length l.length/\b<w.heap.size/\ok b/\Flat V sz ok w olds l/\(∀(j:Nat) (y:Value),olds[j]?=some y->w.cell? ⟨b,j,none⟩=some y)/\l.length<=1000000
theorem iL.moves{V:jx α}(hV:Moves V){ok:Nat->Prop}{l:List α}(hm:Mv ok ok' w w')(h:iL V sz ok w v l):iL V sz ok' w' v l:=by
 obtain⟨b,olds,e,hb,ho,hf,hc,hn⟩:=h;exact⟨b,olds,e,cC hb hm.1,(hm.2 b hb ho).1,Flat.moves hV hm _ _ hf,fun j y hy=>(cd (w:=w) (hm.2 b hb ho).2).trans (hc j y hy),hn⟩
theorem rG{V:jx α}(hV:Moves V){ty:TypeId}(hu:prog.underlying t=some (.slice e))(hi:prog.info? e=some i0)(hz:i0.zero=some z)(hsize:i0.size=sz)(hby:i0.bytes=bytes)(hzs:z.cells.size=sz)(Hv:bytes<=1000)
  {w:World} (B:Nat) (ok:Nat->Prop) (v:Value) (l:List α) (p:α) (hown:iL V sz ok w v l) (g c:Nat) (u:List Value)
  (ez:u.length=sz) (huv:V ok w u p) (hu1:∀z∈u,z.oneCell'=true) (hc:∀(j:Nat) (y:Value),u[j]?=some y->w.cell? (g,j)=some y) (hB:B<=w.heap.size) :
  ∃cap w',(Builtin.append_ #[t,t] ty #[v,.slice (some g) 1 c]).run prog w=.ok (.slice (some w.heap.size) (l.length+1) cap) w' /\
   bF V sz e B ok w' (.slice (some w.heap.size) (l.length+1) cap) (l++[p])/\Below w.heap.size w w'/\w.heap.size<w'.heap.size:=by
 subst hsize;subst hby;obtain⟨b,olds,rfl,hb,gR,hf,hcs,hl⟩:=hown;have hl1:(l++[p]).length=l.length+1:=by simp
 have hol:olds.length=l.length*i0.size:=Flat.length _ _ hf;have hbl:(l.length+1)*i0.bytes<=2000000*1000:=ue TcN Hv;have hr:=run_append_grow (P:=prog) w t ty e i0 z hu hi hz ⟨b,0,none⟩ l.length l.length olds hol (fun j y hy=>by
  rw[iz,eJ];exact hcs j y hy) ⟨g,0,none⟩ 1 c u TcN (fun j y hy=>by
  rw[iz,eJ];exact hc j y hy) TcN TcN (growslice_fits TcN TcN)
 have jn:Below w.heap.size w (w.drew.alloc (.cells (olds.toArray++u.toArray++Builtin.zeroCells z.cells (grownCap w (l.length+1) l.length e-(l.length+1))) e)):=((bj _ _).drew).alloc (bk _) _;have hm:Mv ok ok w (w.drew.alloc (.cells (olds.toArray++u.toArray++Builtin.zeroCells z.cells (grownCap w (l.length+1) l.length e-(l.length+1))) e)):=⟨jn.size,fun b hb gR=>⟨gR,jn.block b hb⟩⟩;have TU:=grownCap_ge w (l.length+1) l.length e;have hcm:grownCap w (l.length+1) l.length e<=maxLen:=grownCap_le_maxLen w _ _ e TcW;have hlen:(olds++u).length=(l.length+1)*i0.size:=by rw[cD,hol,ez,Oy];omega
 refine⟨_,_,hr,⟨olds++u,⟨by rw[hl1];exact hlen,.inr ⟨w.heap.size,_,_,by rw[hl1],hB,b9 w.drew _,by rw[hl1];exact TU,hcm,?_,?_⟩⟩,(Flat.one ez (hV.mv hm huv) hu1).append _ _ (Flat.moves hV hm _ _ hf)⟩,jn,TcO⟩
 ·simp only[Array.size_append,List.size_toArray,size_zeroCells,hzs,hol,ez];rw[<- ez,show l.length*u.length+u.length=(l.length+1)*u.length from by rw[Oy];omega,<- Oy,Nat.add_sub_of_le TU]
 simp only[Array.toList_append,cV];rw[<- cV,hl1,<- hlen];exact List.take_left
def P8{α:Type}(V:jx α)(sz:Nat)(t:TypeId)(B:Nat)(ok:Nat->Prop)(w:World)(v:Value)(l:List α):Prop:=(iL V sz ok w v l/\∀b,v.ownBlock=some b->b<B)\/bF V sz t B ok w v l
def ownB(B:Nat)(v:Value)(k:Nat):Prop:=v.ownBlock=some k/\B<=k
structure Ad{α:Type}(V:jx α)(sz:Nat)(e:TypeId)(B:Nat)(ok:Nat->Prop)(w:World)(v:Value)(l:List α)(p:α)(gb cap:Nat)(w':World):Prop where
 own:bF V sz e B ok w' (.slice (some gb) (l.length+1) cap) (l++[p])
 mod:cR (ownB B v) w w'
 at':ownB B v gb\/(gb=w.heap.size/\gb<w'.heap.size)
theorem Aq{V:jx α}(hV:Moves V)(hu:prog.underlying t=some (.slice e))(hi:prog.info? e=some i0)(hz:i0.zero=some z)(hsize:i0.size=sz)(hby:i0.bytes=bytes)(hzs:z.cells.size=sz)(hsz:0<sz)(Hv:bytes<=1000)
  {w:World} {ops:Array Oper} {rest:List Oper} {o:Oper} {a:Act} {Q:Exit->Act->World->Prop} (hgd:o.guard=none) (s x:Operand)
  (ho:o.op=.call { callee:=.builtin .append,args:=#[s,x],argTypes:=#[t,t] })
  (B:Nat) (ok:Nat->Prop) (v:Value) (l:List α) (p:α) (hs:a.eval s=v) (hown:P8 V sz e B ok w v l) (g c:Nat) (u:List Value) (hx:a.eval x=.slice (some g) 1 c)
  (ez:u.length=sz) (huv:V ok w u p) (hu1:∀z∈u,z.oneCell'=true) (hc:∀(j:Nat) (y:Value),u[j]?=some y->w.cell? (g,j)=some y) (hl:l.length<=1000000) (hB:B<=w.heap.size)
  (gw:∀b,ownB B v b->¬ok b)
  (h:∀gb cap w',Ad V sz e B ok w v l p gb cap w'->wpList prog ops Q rest (a.put o.dst (.slice (some ⟨gb,0,none⟩) (l.length+1) cap)) w'):wpList prog ops Q (o :: rest) a w:=by
 refine wpList_plain hgd fun K hK=>?_;rcases hown with hown|hown
 ·obtain⟨cap,w',hr,h1,h2,h3⟩:=rG (ty:=o.type) hV hu hi hz hsize hby hzs Hv B ok v l p hown.1 g c u ez huv hu1 hc hB;unfold Oper.wp execOp;simp only[ho,resolve,invoke,builtin,Sem.run_bind,Sem.run_pure,ud,tS,iu,List.map_nil,hs,hx,hr];exact hK _ _ (h _ cap w' ⟨h1,cR.of_below h2,.inr ⟨rfl,h3⟩⟩)
 have gR:∀b,v.ownBlock=some b->ownB B v b:=fun b e=>⟨e,by obtain⟨cs,ho,_⟩:=hown;exact(ho.lt b e).1⟩
 obtain⟨gb,cap,w',hr,hp⟩:=nS (ty:=o.type) hV hu hi hz hsize hby hzs hsz Hv B ok v l p hown g c u ez huv hu1 hc hl hB (fun b e=>gw b (gR b e));unfold Oper.wp execOp;simp only[ho,resolve,invoke,builtin,Sem.run_bind,Sem.run_pure,ud,tS,iu,List.map_nil,hs,hx,hr];refine hK _ _ (h gb cap w' ⟨hp.own,⟨hp.grown.os,hp.grown.tape,hp.grown.output,hp.grown.size,fun k hk hn=>hp.grown.block k hk fun e=>hn (gR k e.symm)⟩,?_⟩);have K2:gb<w'.heap.size:=by
  obtain⟨cs,ho,_⟩:=hp.own;exact(ho.lt gb rfl).2
 rcases hp.at' with q|q
 ·exact .inl (gR gb q)
 exact .inr ⟨q,K2⟩
theorem P8.moves{V:jx α}(hV:Moves V){ok:Nat->Prop}{l:List α}(hm:Mv ok ok' w w')(hk:∀k,ownB B v k->w'.heap[k]?=w.heap[k]?)(h:P8 V sz t B ok w v l):P8 V sz t B ok' w' v l:=by
 rcases h with⟨h,h2⟩|⟨cs,ho,hf⟩
 ·exact .inl ⟨h.moves hV hm,h2⟩
 exact .inr ⟨cs,aC ho fun k e=>hk k ⟨e,(ho.lt k e).1⟩,Flat.moves hV hm _ _ hf⟩
theorem P8.rd{V:jx α}{ok:Nat->Prop}{l:List α}(hV:Moves V)(h:P8 V sz t B ok w v l)(hsz:0<sz)(gw:∀b,b<w.heap.size->ok b->ok' b)(hown:∀b,ownB B v b->ok' b):b6 V sz ok' w [v] l:=by
 rcases h with⟨⟨b,olds,rfl,hb,ho,hf,hc,hn⟩,_⟩|h
 ·refine⟨_,l.length,rfl,bk _,?_,fun _=>⟨b,0,rfl,hb,gw b hb ho,fun i x hx=>?_⟩⟩
  ·omega
  obtain⟨u,k1,k2,k3⟩:=Flat.get l olds hf i x hx;exact⟨u,k1,hV.mv ⟨bk _,fun b hb' ho=>⟨gw b hb' ho,rfl⟩⟩ k2,fun j z hz=>by rw[eJ];exact hc _ _ (k3 j z hz)⟩
 exact h.rd hV hsz gw fun b e=>hown b ⟨e,by obtain⟨cs,ho,_⟩:=h;exact(ho.lt b e).1⟩
inductive lD (id:Int)(c:Int):List ByteArray->List Int->List (ByteArray × Int × Int)->List ay->Prop
 |nil:lD id c [] [] [] []
 |snoc {ns:List ByteArray} {ls:List Int} {ps:List (ByteArray × Int × Int)} {vl:List ay} {nm on:ByteArray} {l s:Int} (h:lD id c ns ls ps vl):lD id c (ns++[nm]) (ls++[l]) (ps++[(on,s,l)]) (vl++[eD nm (oX id (c+ns.length+1)) true l on s])
theorem lD.len{id c:Int}{ns:List ByteArray}{ls:List Int}{ps:List (ByteArray × Int × Int)}(h:lD id c ns ls ps vl):vl.length=ns.length:=by
 induction h with
 |nil=>rfl
 |snoc h ih=>simp[ih]
def FV(X:Nat->Prop)(bs bb:Nat)(nv vv:Value)(g:af)(next:List Int)(names:List ByteArray)(lengths:List Int)(w:World)(e:Ending)(w':World):Prop :=
 (∃(ps:List (ByteArray × Int × Int)) (vl:List ay) (next':List Int) (pA:Value),e=.returned (.bool true)/\lD g.id g.next names (lengths.take names.length) ps vl/\fZ g.Gb next ps next' /\
  aH X bs bb nv vv w w' nv pA { g with next:=g.next+names.length,F9:=g.F9++vl } next') \/
 ∃(j:Nat) (nv' pA:Value),e=.returned (.bool false)/\j<=names.length/\aH X bs bb nv vv w w' nv' pA { g with next:=g.next+j } next
theorem eW.vForm{next:List Int}(h:eW X w bs bb nv vv g next):∃p cap,vv=.slice p g.F9.length cap/\g.F9.length<=cap/\cap<=9223372036854775807/\(p=none/\cap=0\/∃b,p=some ⟨b,0,none⟩):=by
 obtain⟨cs,⟨_,h2⟩,_⟩:=h.ownV;rcases h2 with⟨rfl,hn⟩|⟨g,cap,cur,rfl,_,_,vr,hcm,_⟩
 ·exact⟨none,0,by rw[hn],TcN,TcN,.inl ⟨rfl,rfl⟩⟩
 exact⟨_,cap,rfl,vr,Tc4,.inr ⟨_,rfl⟩⟩
theorem eW.nForm{next:List Int}(h:eW X w bs bb nv vv g next)(h0:0<next.length):∃b cap,nv=.slice (some ⟨b,0,none⟩) next.length cap/\next.length<=cap/\cap<=9223372036854775807/\bb<b/\b<w.heap.size/\ig w b 0 next:=by
 have ho:=h.ownN;rcases ho.2 with⟨rfl,hn⟩|⟨b,cap,cur,rfl,hb,hg,vr,hcm,hcs,ht⟩
 ·omega
 refine⟨b,cap,rfl,vr,Tc4,TcN,(Array.getElem?_eq_some_iff.1 hg).1,fun i n hn=>?_⟩;have:=ho.cellAt i (by have:=(List.getElem?_eq_some_iff.1 hn).1;omega);rw[eJ,this];simp[hn]
theorem eW.c10{next:List Int}(h:eW X w bs bb nv vv g next):w.cell? (Tac bb 10)=some nv:=by
 exact Tcn
theorem Tdv{p:Prop}(h:p:=by simp[Value.ownBlock]):p:=h
theorem CF{o:Oper}{a:Act}{K:Act->World->Prop}{Q:Exit->Act->World->Prop}(s x:Operand)
  (ho:o.op=.call { callee:=.builtin .append,args:=#[s,x],argTypes:=#[22,22] })
  (B:Nat) (m:List Int) (hs:a.eval s=.slice none 0 0) (b c:Nat) (hx:a.eval x=.slice (some b) m.length c) (h0:0<m.length)
  (hc:ig w b 0 m) (hl:m.length<=1000000) (hB:B<=w.heap.size)
  (h:∀gb cap w',eG w' B (.slice (some ⟨gb,0,none⟩) m.length cap) m->Below w.heap.size w w'->w.heap.size<=gb->gb<w'.heap.size->m.length<=cap->cap<=9223372036854775807->K (a.put o.dst (.slice (some ⟨gb,0,none⟩) m.length cap)) w'):o.wp prog a w K Q:=by
 obtain⟨i0,hi,hz0,hz1,hz2⟩:=gg tZ;obtain⟨v',w',hr,h2,h3,h4,h5⟩:=run_append_own_at (P:=prog) w w.heap.size 22 o.type 3 i0 _ 1 8 underlying22 hi hz0 hz1 hz2 rfl TcQ (.slice none 0 0) 0 [] (gS w _ _ 1) ⟨b,0,none⟩ m.length c (m.map (Value.int .i64)) TcO (fun j u hu=>by
  rw[iz];obtain⟨n,hn,rfl⟩:∃n,m[j]?=some n/\Value.int .i64 n=u:=by simpa using hu
  exact hc j n hn) (fun u hu=>by
   obtain⟨n,_,rfl⟩:=List.mem_map.1 hu;rfl) TcW TcN (bk _)
 rw[eJ,List.nil_append]at h2;have h6:=h2.2;rcases h6 with⟨_,hn⟩|⟨gb,cap,cur,rfl,hb,hg,vr,hcm,hcs,ht⟩
 ·omega
 unfold Oper.wp execOp;simp only[ho,resolve,invoke,builtin,Sem.run_bind,Sem.run_pure,ud,tS,iu,List.map_nil,hs,hx,hr];have hlt:=h2.lt gb rfl;exact h gb cap w' (eG.mono h2 hB) ⟨h3.os,h3.tape,h3.output,h3.size,fun k hk=>h3.block k hk Tdv⟩ hlt.1 hlt.2 vr Tc4
theorem b6.form{V:jx α}{ok:Nat->Prop}{l:List α}(h:b6 V sz ok w [v] l):∃p cap,v=.slice p l.length cap/\l.length<=cap/\cap<=9223372036854775807/\(0<l.length->∃b off,p=some ⟨b,off,none⟩/\b<w.heap.size/\ok b/\oh V sz ok w b off l):=by
 obtain⟨p,cap,e,h1,h2,h3⟩:=h;injection e with e;exact⟨p,cap,e,h1,h2,h3⟩
theorem vg{N' cap:Nat}{xs:List Value}(h:w.ownsRow B t sz (.slice p N cap) N' xs)(n0:Nat)(hn:n0<=N'):w.ownsRow B t sz (.slice p n0 cap) n0 (xs.take (n0*sz)):=by
 obtain⟨h1,h2⟩:=h;have hle:n0*sz<=N'*sz:=tA _ hn;refine⟨by rw[ey,h1];omega,?_⟩;rcases h2 with⟨e,hz⟩|⟨g,cap',cur,e,hb,hg,vr,hcm,hcs,ht⟩
 ·injection e with e1 e2 e3;subst hz;obtain rfl:n0=0:=by omega
  exact .inl ⟨by rw[e1,e3],rfl⟩
 injection e with e1 e2 e3;subst e3;refine .inr ⟨g,cap,cur,by rw[e1],hb,hg,TcN,hcm,hcs,?_⟩;rw[<- ht,List.take_take,Nat.min_eq_left hle]
theorem Flat.takeL{V:jx α}{ok:Nat->Prop}{m:List α}:∀(l:List α) (cs:List Value),Flat V sz ok w cs (l++m)->Flat V sz ok w (cs.take (l.length*sz)) l
 |[],cs,_=>by simp[Flat]
 |x :: l,cs,⟨u,r,e,h1,h2,h3,h4⟩=>by
  refine⟨u,r.take (l.length*sz),?_,h1,h2,h3,Flat.takeL l r h4⟩;rw[e,cS,Oy,Nat.one_mul,List.take_append,h1,jz TcN,show l.length*sz+sz-sz=l.length*sz by omega]
theorem aH.restore{w0:World}{n0 cap c:Nat}{v0:List ay}{next next0:List Int}(h:aH Y bs bb rK rN w0 w nv (.slice p N cap) g next)(hv:g.F9=v0++vl)(hn:v0.length=n0)
  (ho:eG w (bb+1) (.slice (some gb) next0.length c) next0) (TV:∀k,X k->Y k) (U5:Y gb) (QR:¬X gb) (hg0:w0.heap.size<=gb) :
  aH X bs bb rK rN w0 ((w.setCell (Tac bb 8) (.slice p n0 cap)).setCell (Tac bb 10) (.slice (some gb) next0.length c)) (.slice (some gb) next0.length c) (.slice p n0 cap) { g with F9:=v0 } next0:=by
 have hb:=h.bld;have hbl:=hb.Gj;have hlt:=hb.lt;generalize hw':(w.setCell (Tac bb 8) (.slice p n0 cap)).setCell (Tac bb 10) (.slice (some gb) next0.length c)=w';have hk:∀k,k≠bb->w'.heap[k]?=w.heap[k]?:=fun k hk=>by rw[<- hw',bw _ _ _ _ hk,bw _ _ _ _ hk]
 have hz:w'.heap.size=w.heap.size:=by rw[<- hw'];simp[World.setCell]
 have gR:∀k,(Value.slice p n0 cap).ownBlock=some k->(Value.slice p N cap).ownBlock=some k:=fun k e=>by
  cases p with
  |none=>cases e
  |some a=>exact e
 have hgb:=hb.xlt gb U5;have gw:∀b,okB Y bb nv (.slice p N cap) b->okB X bb (.slice (some gb) next0.length c) (.slice p n0 cap) b:=fun b ho=>⟨ho.1,fun e=>ho.2.2.2 (by injection e with e;exact e ▸ U5),fun e=>ho.2.2.1 (gR b e),fun hx=>ho.2.2.2 (TV b hx)⟩
 have hm:Mv (okB Y bb nv (.slice p N cap)) (okB X bb (.slice (some gb) next0.length c) (.slice p n0 cap)) w w':=⟨TcN,fun b _ ho=>⟨gw b ho,hk b Tdo⟩⟩;refine⟨⟨hb.src.keep fun i hi=>hk i TcN,hlt,?_,?_,?_,fun k e e'=>?_,fun k hx=>⟨(hb.xlt k (TV k hx)).1,by rw[hz];exact(hb.xlt k (TV k hx)).2⟩,fun k e hx=>?_,fun k e hx=>hb.xv k (gR k e) (TV k hx)⟩,?_,fun k e=>.inr ?_,fun k e=>h.vfr k (gR k e)⟩
 ·obtain⟨tv,dv,hv,e,h1,h2,h3⟩:=hb.blk;refine⟨tv,dv,hv,?_,(b6.moves aF.moves).mv hm h1,(b6.moves aO.moves).mv hm h2,h3⟩;rw[<- hw'];exact block_setCell (cs:=#[_,_,_,_,_,_,_,_,_,_,_]) (i:=10) _ (block_setCell (cs:=#[_,_,_,_,_,_,_,_,_,_,_]) (i:=8) _ e)
 ·exact aC ho fun k e=>hk k (by injection e with e;have e':gb=k:=e;omega)
 ·obtain⟨cs,hr,hf⟩:=hb.ownV;rw[hv]at hr hf;refine⟨cs.take (n0*6),?_,?_⟩
  ·show w'.ownsRow (bb+1) _ 6 (.slice p n0 cap) v0.length _;rw[hn];refine aC (w:=w) (vg hr n0 (by rw[cD];omega)) fun k e=>hk k ?_;have:=hb.vLt (gR k e);omega
  have:=Flat.takeL v0 cs hf;rw[hn]at this;exact Flat.moves aN.moves hm _ _ this
 ·have e1:gb=k:=by injection e
  subst e1;exact hb.xv gb (gR gb e') U5
 ·have e1:gb=k:=by injection e
  subst e1;exact QR hx
 ·rw[<- hw'];exact(h.mod.setCell (p:=⟨bb,8,none⟩) (.inl (.inr (.inl rfl))) _).setCell (p:=⟨bb,10,none⟩) (.inl (.inr (.inl rfl))) _
 have e1:gb=k:=by injection e
 omega
theorem zi(X:Nat->Prop)(bs bb:Nat)(nv vv:Value)(g:af)(next:List Int)(w:World)(h:eW X w bs bb nv vv g next)(hk:BOk g next)(ft fx:Value)(names:List ByteArray)(lengths:List Int)
  (hns:b6 aF 1 X w [ft] names) (U6:b6 cO 1 X w [fx] lengths) (zr:names.length<=lengths.length) (hn8:names.length<=8) (hl8:lengths.length<=8) (hlb:∀l∈lengths,1<=l/\l<=1000) (mb:g.F9.length<=40) (hnx:g.next<=1000) :
  Calls prog 38 #[.pointer (some bb),ft,fx] w (FV X bs bb nv vv g next names lengths w):=by
 have k0:=hk.n0;have k1:=hk.n1;have k2:=hk.dk.pos;have k3:=hk.dk.le;have kl0:0<next.length:=by rw[hk.dk.len];omega
 have kl1:next.length<=8:=by rw[hk.dk.len];omega
 have c8:=h.c8;have c10:=h.c10;have cX:=h.Gj;obtain⟨vp,ao4,rfl,v1,v2,v3⟩:=h.vForm;obtain⟨nb,ki,rfl,n1,n2,n3,n4,n5⟩:=h.nForm TcN;have QS:=aa n5;clear n5;obtain⟨np,X8,rfl,a1,a2,a3⟩:=hns.form;obtain⟨lp,X9,rfl,b1,b2,b3⟩:=U6.form;have OT:=aa a3;clear a3 hns;have cJ:=aa b3;clear b3 U6;have Qc:=aa hlb;clear hlb;have Ya:=aa v3;clear v3;go_enter func38,ntmps38;go_wp2;refine aZ (fun w'=>w'.cell? (Tac bb 8)=some (.slice vp g.F9.length ao4)/\w'.cell? (Tac bb 10)=some (.slice (some nb) next.length ki)) 11 [0,1,2,3,6,7,8] TcP ⟨c8,c10⟩ (fun hHeld=>?_);refine fz 0 ?_;refine fz 1 ?_;refine fz 2 ?_;refine fz 3 ?_;refine fz 6 ?_;refine fz 7 ?_;refine fz 8 ?_;refine fS 4 hHeld ?_;refine fS 9 hHeld ?_;refine fS 5 hHeld ?_;refine lR 10 fun K hK=>?_;refine CF _ _ rfl (bb+1) next TcT nb ki TcT TcN QS.o TcN cX (fun gb cap w1 Mq hb1 hg1 hg2 hc1 hc2=>?_);refine hK.o _ _ ⟨(hb1.cell (p:=⟨bb,8,none⟩) cX).trans c8,(hb1.cell (p:=⟨bb,10,none⟩) cX).trans c10⟩ ?_;clear hK K;refine aP TcP rfl ?_;simp only[cQ,cL,Act.put,xT];go_wp2;have hz1:=hb1.size
 have P1:aH (fD X gb) bs bb (.slice (some nb) next.length ki) (.slice vp g.F9.length ao4) w w1 (.slice (some nb) next.length ki) (.slice vp g.F9.length ao4) g next:=((aH.refl h).drewN 1).fresh hb1 (by
  rintro k (q|rfl)
  ·exact .inl q
  exact .inr ⟨hg1,hg2⟩)
 have ZY:=aa Mq;clear Mq;have U7:w.heap.size<=gb:=hg1;have QR:¬X gb:=fun q=>by have:=(h.xlt gb q).2;omega
 go_loopw[9] (fun i wr=>∃(k:Nat) (ps:List (ByteArray × Int × Int)) (vl:List ay) (next':List Int) (pA:Value),k<=names.length/\i=.int .i64 k/\lD g.id g.next (names.take k) (lengths.take k) ps vl/\fZ g.Gb next ps next' /\
   aH (fD X gb) bs bb (.slice (some nb) next.length ki) (.slice vp g.F9.length ao4) w wr (.slice (some nb) next.length ki) pA { g with next:=g.next+k,F9:=g.F9++vl } next'/\wr.heap[gb]?=w1.heap[gb]?) (fun i _=>names.length-(intOf i).toNat)
 case atStart =>
  refine⟨0,[],[],next,.slice vp g.F9.length ao4,TcN,rfl,.nil,.nil _,?_,rfl⟩;simpa using P1
 obtain⟨k,ps,vl,next',pA,Tt,rfl,Yb,DB,P,hgb⟩:=hrel;have dk:=DB.ok hk.dk;have U8:=aa Yb;clear Yb;have Mj:=aa hgb;clear hgb;have aw1:vl.length<=8:=by have:=U8.o.len;rw[ey]at this;omega
 have MQ:BOk { g with next:=g.next+k,F9:=g.F9++vl } next':=⟨dk,TcS,TcS,TcS⟩
 obtain⟨NS,vc2,rfl,w1',w2',w3'⟩:=P.bld.vForm;have HW3:=aa w3';clear w3';have d8:=P.bld.c8;have hML:(g.F9++vl).length<=48:=by rw[cD];omega
 simp only at d8 w1' P;generalize hM:(g.F9++vl).length=M at *;have HM:=aa hM;clear hM;have hcw:eG wr (bb+1) (.slice (some gb) next.length cap) next:=aC ZY.o fun q e=>by
  have e1:gb=q:=by injection e
  subst e1;exact Mj.o
 by_cases hlt:k<names.length
 ·by_cases h31:31<=M
  ·have hdd:decide ((31:Int)<=(M:Int))=true:=by simp;omega
   obtain⟨vb,rfl⟩:∃b,NS=some ⟨b,0,none⟩:=HW3.o.resolve_left (fun q=>by omega);have ZZ:g.F9.length<=M:=by rw[<- HM.o,cD];omega
   have z1:(0:Int)<=(g.F9.length:Int):=by omega
   have z2:(g.F9.length:Int)<=(vc2:Int):=by omega
   have Z0:=P.bld.bfr 8;have U9:=P.bld.bfr 10;have Va:=P.bld.c10;go_wp2;go_quiet (fail);go_wp2;go_ret;exact .inr ⟨k,_,_,rfl,TcN,(P.drewN nq).restore rfl rfl hcw (fun q hq=>.inl hq) (.inr rfl) QR U7⟩
  have hdd:decide ((31:Int)<=(M:Int))=false:=by simp;omega
  obtain⟨Lk,no1,rfl,Z2,Z3,Yd⟩:=OT.o TcN;obtain⟨lb1,lo1,rfl,Z4,Z5,Ye⟩:=cJ.o TcN;obtain⟨nm,pD⟩:=aj names k hlt;obtain⟨ln,TW⟩:=aj lengths k TcN;have Vb:=Qc.o ln (ct TW);have Z6:wr.cell? (Lk,no1+k)=some (.string nm):=by
   obtain⟨u,_,hu,hc⟩:=Yd k nm pD;have:=hc 0 (.string nm) (by rw[hu];rfl);rw[(cd (w:=w) (P.mod.block Lk Z2 (h.xfp Z3)):wr.cell? (Lk,no1+k)=_)];simpa using this
  have cl1:wr.cell? (lb1,lo1+k)=some (.int .i64 ln):=by
   obtain⟨u,_,hu,hc⟩:=Ye k ln TW;have:=hc 0 (.int .i64 ln) (by rw[hu];rfl);rw[(cd (w:=w) (P.mod.block lb1 Z4 (h.xfp Z5)):wr.cell? (lb1,lo1+k)=_)];simpa using this
  clear Yd Ye;have Mr:=aa pD;clear pD;have HLN:=aa TW;clear TW;have z1:(0:Int)<=(k:Int):=by omega
  have z2:(k:Int)<(names.length:Int):=by omega
  have z3:(k:Int)<(lengths.length:Int):=by omega
  go_wp2;(refine il 18 TcP TcP ?_;simp only[xi,iv,cQ,cL];(repeat(go_big_quiet_step (fail)));(with_reducible refine fR ?_);intro wq ia;obtain⟨nq,ia⟩:=ia;subst ia)
  go_wp2_with fail;refine(qw (fD X gb) bs bb _ _ _ next' _ (P.drewN nq).bld MQ nm true k ln TcN Vb.1 TcN).mono ?_;rintro e w2 (⟨rfl,R⟩|⟨on,s,nx,OJ,hT,rfl,R,_⟩)
  ·have R2:=(P.drewN nq).trans R;have hc2:eG w2 (bb+1) (.slice (some gb) next.length cap) next:=aC (w:=wr.drewN nq) hcw fun q e=>by
    have e1:gb=q:=by injection e
    subst e1;exact R.loc (P.drewN nq).bld (.inr rfl)
   have ZZ:g.F9.length<=M:=by rw[<- HM.o,cD];omega
   have Z0:=R2.bld.bfr 8;have U9:=R2.bld.bfr 10;have Va:=R2.bld.c10;have bc8:=R2.bld.c8;clear Z6 cl1 d8 c8 c10;rcases HW3.o with⟨rfl,hc0⟩|⟨vb,rfl⟩
   ·subst hc0;have hM0:M=0:=by omega
    subst hM0;have hg0:g.F9.length=0:=by omega
    have z4:(0:Int)<=(g.F9.length:Int):=by omega
    go_wp2;go_ret;refine .inr ⟨k+1,.slice (some gb) next.length cap,.slice none 0 0,rfl,TcN,?_⟩;have:=R2.restore (X:=X) (v0:=g.F9) (vl:=vl) rfl hg0 hc2 (fun q hq=>.inl hq) (.inr rfl) QR U7;rw[show g.next+((k+1:Nat):Int)=g.next+k+1 by omega];exact this
   have z4:(0:Int)<=(g.F9.length:Int):=by omega
   have z5:(g.F9.length:Int)<=(vc2:Int):=by omega
   go_wp2;go_ret;refine .inr ⟨k+1,.slice (some gb) next.length cap,.slice (some vb) g.F9.length vc2,rfl,TcN,?_⟩;have:=R2.restore (X:=X) (v0:=g.F9) (vl:=vl) rfl rfl hc2 (fun q hq=>.inl hq) (.inr rfl) QR U7;rw[show g.next+((k+1:Nat):Int)=g.next+k+1 by omega];exact this
  go_wp2;go_roundw
  case rel =>
   refine⟨k+1,ps++[(on,s,ln)],vl++[eD nm (oX g.id (g.next+k+1)) true ln on s],nx,OJ,TcN,TcR,?_,DB.trans hT,?_,(R.loc (P.drewN nq).bld (.inr rfl)).trans Mj.o⟩
   ·rw[take_snoc' _ _ _ Mr.o,take_snoc' _ _ _ HLN.o];have:=lD.snoc (nm:=nm) (on:=on) (l:=ln) (s:=s) U8.o;rw[ey,Nat.min_eq_left TcN]at this;exact this
   rw[show g.next+((k+1:Nat):Int)=g.next+k+1 by omega,<- cV];exact(P.drewN nq).trans R
  simp[intOf];omega
 obtain rfl:k=names.length:=by omega
 go_wp2;go_ret;refine .inl ⟨ps,vl,next',_,rfl,?_,DB,P.fewer (fun q hq=>.inl hq)⟩;have:=U8.o;rw[cI]at this;exact this
def aV(start n kind:Int)(Ga:List aR)(done:Int):aB:=⟨start,n,kind,Ga,0,[],es,es,0,0,done⟩
def bg(l:List aB):Int:=(l.map (·.length)).sum
def iG(x:aB):List (ByteArray × Int × Int):=if x.kind=1\/x.kind=8 then x.Ga.map fun a=>(a.on,a.start,x.length) else []
inductive fB (l:List aB):List aB->Prop
 |nil:fB l l
 |void {l':List aB} {n kind:Int} (h:fB l l') (hn:1<=n/\n<=3) (hk:kind=9\/kind=10):fB l (l'++[aV (bg l') n kind [] 0])
 |lin {l':List aB} {n s:Int} {on:ByteArray} (h:fB l l') (hn:1<=n/\n<=3):fB l (l'++[aV (bg l') n 1 [⟨false,on,s⟩] 0])
 |move {l':List aB} {n s s' dn:Int} {on on':ByteArray} (h:fB l l') (hn:1<=n/\n<=3) (hd:0<=dn/\dn<=n):fB l (l'++[aV (bg l') n 8 [⟨false,on,s⟩,⟨false,on',s'⟩] dn])
theorem Tcs{p:Prop}(h:p:=by
 obtain⟨cs,ho,_⟩:=h;exact ho.lt k e):p:=h
theorem bF.ge0{V:jx α}{ok:Nat->Prop}{l:List α}(h:bF V sz t B ok w v l){k:Nat}(e:v.ownBlock=some k):B<=k/\k<w.heap.size:=by
 exact Tcs
def eO(X:Nat->Prop)(Lv:Nat)(sv:Value):Nat->Prop:=fun k=>X k\/k=Lv\/k=Lv+1\/ownB (Lv+1+1) sv k
structure yy(X:Nat->Prop)(bs bb:Nat)(nv vv:Value)(g:af)(next:List Int)(w0:World)(Lv:Nat)(cs:Value->Array Value)(l0:List aB)(sv:Value)(Gf:List aB)(ps:List (ByteArray × Int × Int))(nx:List Int)(w:World):Prop where
 post:aH (eO X Lv sv) bs bb nv vv w0 w nv vv g nx
 bv:w.heap[Lv]?=some (.cells (cs sv) 57 (0,0))
 br:∃zs:Array Value,zs.size=6/\w.heap[Lv+1]?=some (.cells zs 57 (0,0))
 st:P8 bC 11 88 (Lv+1+1) (okB (eO X Lv sv) bb nv vv) w sv Gf
 more:fB l0 Gf
 took:fZ g.Gb next ps nx
 sub:List.Sublist ((Gf.drop l0.length).flatMap iG) ps
 len:∀x∈Gf,0<=x.length/\x.length<=1000
 lv:w0.heap.size<=Lv
 hB:Lv+1+1<=w.heap.size
section
variable {X:Nat->Prop}{bs bb:Nat}{nv vv:Value}{g:af}{next:List Int}{w0 w w':World}{Lv:Nat}{cs:Value->Array Value}{l0 Gf:List aB}{sv:Value}{ps ps':List (ByteArray × Int × Int)}{nx NT:List Int}
theorem yy.step(h:yy X bs bb nv vv g next w0 Lv cs l0 sv Gf ps nx w)(q:aH (eO X Lv sv) bs bb nv vv w w' nv vv g NT)(ht:fZ g.Gb nx ps' NT):yy X bs bb nv vv g next w0 Lv cs l0 sv Gf (ps++ps') NT w':=by
 obtain⟨zs,hz,hr⟩:=h.br;exact⟨h.post.trans q,(q.loc h.post.bld (.inr (.inl rfl))).trans h.bv,⟨zs,hz,(q.loc h.post.bld (.inr (.inr (.inl rfl)))).trans hr⟩,h.st.moves bC.moves ⟨q.mod.size,fun b hb ho=>⟨ho,q.loc' h.post.bld ho hb⟩⟩ (fun k hk=>q.loc h.post.bld (.inr (.inr (.inr hk)))),h.more,h.took.trans ht,h.sub.trans (List.sublist_append_left _ _),h.len,h.lv,cA h.hB q.mod.size⟩
theorem yy.below(h:yy X bs bb nv vv g next w0 Lv cs l0 sv Gf ps nx w)(hb:Below w.heap.size w w'):yy X bs bb nv vv g next w0 Lv cs l0 sv Gf ps nx w':=by
 have:=h.step ((aH.refl h.post.bld).after hb) (.nil _);simpa using this
theorem yy.read(h:yy X bs bb nv vv g next w0 Lv cs l0 sv Gf ps nx w)(hs:Src w' bs)(hm:cR (fun i=>i=bs) w w'):yy X bs bb nv vv g next w0 Lv cs l0 sv Gf ps nx w':=by
 have:=h.step (h.post.bld.readPost hs hm) (.nil _);simpa using this
theorem yy.fresh(h:yy X bs bb nv vv g next w0 Lv cs l0 sv Gf ps nx w)(o:Obj):yy (fD X w.heap.size) bs bb nv vv g next w0 Lv cs l0 sv Gf ps nx (w.alloc o):=by
 have hb:=ae w o;have hlv:Lv<w.heap.size:=by have:=h.hB;omega
 obtain⟨zs,hz,hr⟩:=h.br;refine⟨h.post.fresh hb (fun k hk=>?_),(hb.block Lv hlv).trans h.bv,⟨zs,hz,(hb.block (Lv+1) (by have:=h.hB;omega)).trans hr⟩,h.st.moves bC.moves ⟨hb.size,fun b hb' ho=>⟨⟨ho.1,ho.2.1,ho.2.2.1,fun q=>?_⟩,hb.block b hb'⟩⟩ (fun k hk=>hb.block k (h.post.bld.xlt k (.inr (.inr (.inr hk)))).2),h.more,h.took,h.sub,h.len,h.lv,cA h.hB hb.size⟩
 ·rcases hk with(q|rfl)|q
  ·exact .inl (.inl q)
  ·exact .inr ⟨bk _,TcO⟩
  exact .inl (.inr q)
 rcases q with(q|rfl)|q
 ·exact ho.2.2.2 (.inl q)
 ·omega
 exact ho.2.2.2 (.inr q)
theorem yy.drop{L:Nat}(h:yy (fD X L) bs bb nv vv g next w0 Lv cs l0 sv Gf ps nx w):yy X bs bb nv vv g next w0 Lv cs l0 sv Gf ps nx w:=by
 have hY:∀k,eO X Lv sv k->eO (fD X L) Lv sv k:=fun k q=>q.imp (fun q=>.inl q) id;exact⟨h.post.fewer hY,h.bv,h.br,h.st.moves bC.moves ⟨bk _,fun b _ ho=>⟨⟨ho.1,ho.2.1,ho.2.2.1,fun q=>ho.2.2.2 (hY b q)⟩,rfl⟩⟩ (fun _ _=>rfl),h.more,h.took,h.sub,h.len,h.lv,h.hB⟩
theorem Td8{p:Prop}(h:p:=by rw[hz];exact h.hB):p:=h
theorem yy.put{L:Nat}(h:yy (fD X L) bs bb nv vv g next w0 Lv cs l0 sv Gf ps nx w)(hL:Lv+1+1<=L)(hsv:sv.ownBlock≠some L)(i:Nat)(u:Value):yy (fD X L) bs bb nv vv g next w0 Lv cs l0 sv Gf ps nx (w.setCell (L,i) u):=by
 have kk:∀k,k≠L->(w.setCell (L,i) u).heap[k]?=w.heap[k]?:=fun k e=>bw _ _ _ _ e;have hz:(w.setCell (L,i) u).heap.size=w.heap.size:=by simp[World.setCell]
 obtain⟨zs,hzs,hr⟩:=h.br;exact⟨h.post.put L i u (.inl (.inr rfl)) (by have:=h.lv;omega),(kk Lv TcN).trans h.bv,⟨zs,hzs,(kk (Lv+1) TcN).trans hr⟩,h.st.moves bC.moves ⟨TcN,fun b _ ho=>⟨ho,kk b (fun e=>ho.2.2.2 (.inl (.inr e)))⟩⟩ (fun k hk=>kk k (fun e=>hsv (e ▸ hk.1))),h.more,h.took,h.sub,h.len,h.lv,Td8⟩
theorem yy.svLt(h:yy X bs bb nv vv g next w0 Lv cs l0 sv Gf ps nx w){k:Nat}(e:sv.ownBlock=some k):k<w.heap.size:=by
 rcases h.st with⟨⟨b,olds,rfl,hb,_⟩,_⟩|ho
 ·obtain rfl:b=k:=by injection e
  exact hb
 exact(ho.ge0 e).2
theorem Ter{p:Prop}(h:p:=by have:=(ho.lt k e).1;omega):p:=h
theorem yy.push{w1 w2:World}{x:aB}{gb cap:Nat}(h:yy X bs bb nv vv g next w0 Lv cs l0 sv Gf ps nx w)(hb:Below w.heap.size w w1)
  (hp:Ad bC 11 88 (Lv+1+1) (fun b=>okB (eO X Lv sv) bb nv vv b/\b<w.heap.size) w1 sv Gf x gb cap w2) (hm:fB l0 (Gf++[x])) (hs:List.Sublist (((Gf++[x]).drop l0.length).flatMap iG) ps) (hx:0<=x.length/\x.length<=1000)
  (hcs:∀u v,(cs u).setIfInBounds 5 v=cs v):yy X bs bb nv vv g next w0 Lv cs l0 (.slice (some gb) (Gf.length+1) cap) (Gf++[x]) ps nx (w2.setCell (Tac Lv 5) (.slice (some gb) (Gf.length+1) cap))/\w2.heap[Lv]?=some (.cells (cs sv) 57 (0,0)):=by
 have h1:=h.below hb;have hlv:=h.lv;have hB:=h.hB;have hz:=hb.size;have hz2:=hp.mod.size;have kk:∀k,k≠Lv->(w2.setCell (Tac Lv 5) (.slice (some gb) (Gf.length+1) cap)).heap[k]?=w2.heap[k]?:=fun k e=>bw _ _ _ _ e;have hzz:(w2.setCell (Tac Lv 5) (.slice (some gb) (Gf.length+1) cap)).heap.size=w2.heap.size:=by simp[World.setCell]
 have Yf:w2.heap[Lv]?=some (.cells (cs sv) 57 (0,0)):=(hp.mod.block Lv TcN (fun q=>by have:=q.2;omega)).trans h1.bv;have hg:=hp.own.ge0 (k:=gb) rfl;have hY:∀k,eO X Lv (.slice (some gb) (Gf.length+1) cap) k->eO X Lv sv k\/(w1.heap.size<=k/\k<w2.heap.size):=by
  rintro k (q|q|q|q)
  ·exact .inl (.inl q)
  ·exact .inl (.inr (.inl q))
  ·exact .inl (.inr (.inr (.inl q)))
  obtain rfl:gb=k:=by injection q.1
  rcases hp.at' with q|q
  ·exact .inl (.inr (.inr (.inr q)))
  exact .inr ⟨TcN,q.2⟩
 refine⟨⟨h1.post.move (((hp.mod.mono (G:=fun k=>eO X Lv sv k/\w0.heap.size<=k) (fun k q=>⟨.inr (.inr (.inr q)),by have:=q.2;omega⟩))).setCell (p:=⟨Lv,5,none⟩) (.inl ⟨.inr (.inl rfl),hlv⟩) _) (fun k hk=>(hY k hk).imp id (fun q=>by rw[hzz];exact q)),?_,?_,.inr ?_,hm,h.took,hs,fun y hy=>?_,hlv,by rw[hzz];omega⟩,Yf⟩
 ·rw[<- hcs sv];exact block_setCell (i:=5) _ Yf
 ·obtain⟨zs,hzs,hr⟩:=h1.br;exact⟨zs,hzs,(kk (Lv+1) TcN).trans ((hp.mod.block (Lv+1) TcN (fun q=>by have:=q.2;omega)).trans hr)⟩
 ·obtain⟨cl,ho,hf⟩:=hp.own;refine⟨cl,aC ho fun k e=>kk k Ter,Flat.moves bC.moves ⟨TcN,fun b _ ho=>⟨⟨ho.1.1,ho.1.2.1,ho.1.2.2.1,fun q=>?_⟩,kk b (fun e=>ho.1.2.2.2 (.inr (.inl e)))⟩⟩ _ _ hf⟩;rcases hY b q with q|q
  ·exact ho.1.2.2.2 q
  have:=ho.2;omega
 rcases List.mem_append.1 hy with q|q
 ·exact h.len y q
 simp only[dr,cY,dg]at q;rw[q];exact hx
end
variable {P:Program}{ops:Array Oper}{Q:Exit->Act->World->Prop}{a:Act}{w:World}{md:Region.Mode}{S:World->Prop}{N:Nat->Bool}{fuel i j:Nat}{listed:Array Bool}{o':Oper}
def FT(X:Nat->Prop)(bs bb:Nat)(nv vv:Value)(g:af)(next:List Int)(name:ByteArray)(id:Int)(hidden ro:Bool)(tv:Value)(x0:aB)(w:World)(e:Ending)(w':World):Prop :=
 ∃(sv:Value) (Gf:List aB) (ps:List (ByteArray × Int × Int)) (next':List Int),e=.returned (.agg #[.string name,.int .u64 id,.bool hidden,.bool ro,tv,sv])/\fB [x0] Gf/\Gf.length<=3/\fZ g.Gb next ps next'/\List.Sublist ((Gf.drop 1).flatMap iG) ps /\
  aH X bs bb nv vv w w' nv vv g next'/\b6 bC 11 (okB X bb nv vv) w' [sv] Gf
theorem kW{id:Nat}(S:World->Prop)(N:Nat->Bool)(hm:P.follows .mixedOrders=true)(hS:S w.drew)
  (h:S w.drew->bG P .any ops Q S N ops.size (Array.replicate ops.size false) a w.drew):(Code.region id ops true).wp P Q a w :=
 wp_region_any hm (mF _ _ _ _ (h hS))
theorem eB{l:List Oper}(m:Nat)(hN:∀t,m<=t->N t=false)(hB:Region.seqB md l.toArray (l.toArray.size-m) m listed=true)(hf:fuel=(l.drop m).length)(h:wpList P l.toArray Q (l.drop m) a w):bG P md l.toArray Q S N fuel listed a w:=by
 rw[hf];exact gM (l.drop m) m listed a w hN (fun j=>by simp[pk]) (by simpa using hB) h
theorem ja{o:Oper}(hi:ops[i]?=some o)(hg:o.guard=none)(hj:ops[j]?=some o')(hg':o'.guard=none)(hr:Region.ready md ops listed=[i,j])
  (h1:∀K:Act->World->Prop,Hid (∀a' w',(N i=true->S w')->bG P md ops Q S N fuel (listed.setIfInBounds i true) a' w'->K a' w')->o.wp P a w K Q)
  (h2:∀K:Act->World->Prop,Hid (∀a' w',(N j=true->S w')->bG P md ops Q S N fuel (listed.setIfInBounds j true) a' w'->K a' w')->o'.wp P a w K Q):bG P md ops Q S N (fuel+1) listed a w:=by
 refine⟨fun h0=>Tdn,fun k hk=>?_⟩;rw[hr]at hk;simp only[dr,cY,dg]at hk;rcases hk with rfl|rfl
 ·have hw:Region.wanted o (yielded ops a.tmps)=true:=by simp[Region.wanted,hg]
  unfold wpOp;simp only[hi,hw,ej];exact .inl (h1 _ (aa fun a' w' q1 q2=>⟨q1,q2⟩))
 have hw:Region.wanted o' (yielded ops a.tmps)=true:=by simp[Region.wanted,hg']
 unfold wpOp;simp only[hj,hw,ej];exact .inl (h2 _ (aa fun a' w' q1 q2=>⟨q1,q2⟩))
theorem bS{o:Oper}(hi:ops[i]?=some o)(hg:o.guard=none)(hr:Region.ready md ops listed=[i])
  (h:∀K:Act->World->Prop,Hid (∀a' w',(N i=true->S w')->bG P md ops Q S N fuel (listed.setIfInBounds i true) a' w'->K a' w')->o.wp P a w K Q):bG P md ops Q S N (fuel+1) listed a w:=by
 refine⟨fun h0=>Tdn,fun k hk=>?_⟩;rw[hr]at hk;obtain rfl:k=i:=by simpa using hk
 have hw:Region.wanted o (yielded ops a.tmps)=true:=by simp[Region.wanted,hg]
 unfold wpOp;simp only[hi,hw,ej];exact .inl (h _ (aa fun a' w' q1 q2=>⟨q1,q2⟩))
theorem Tb9{p:Prop}(h:p:=by
 unfold wpOp;simp only[hi,hw,ej];exact .inl (h1 _ (aa fun a' w' q1 q2=>⟨fun _=>q1,q2⟩))):p:=h
theorem mh{o:Oper}(hi:ops[i]?=some o)(hg:o.guard=none)(hj:ops[j]?=some o')(hg':o'.guard=none)(hr:Region.ready md ops listed=[i,j])
  (h1:∀K:Act->World->Prop,Hid (∀a' w',S w'->bG P md ops Q S N fuel (listed.setIfInBounds i true) a' w'->K a' w')->o.wp P a w K Q)
  (h2:∀K:Act->World->Prop,Hid (∀a' w',S w'->bG P md ops Q S N fuel (listed.setIfInBounds j true) a' w'->K a' w')->o'.wp P a w K Q):bG P md ops Q S N (fuel+1) listed a w:=by
 refine⟨fun h0=>Tdn,fun k hk=>?_⟩;rw[hr]at hk;simp only[dr,cY,dg]at hk;rcases hk with rfl|rfl
 ·have hw:Region.wanted o (yielded ops a.tmps)=true:=by simp[Region.wanted,hg]
  exact Tb9
 have hw:Region.wanted o' (yielded ops a.tmps)=true:=by simp[Region.wanted,hg']
 unfold wpOp;simp only[hj,hw,ej];exact .inl (h2 _ (aa fun a' w' q1 q2=>⟨fun _=>q1,q2⟩))
structure fw(X:Nat->Prop)(bs bb:Nat)(nv vv:Value)(g:af)(next:List Int)(w0:World)(Lv:Nat)(cs:Value->Array Value)(l0:List aB)(sv:Value)(Gf:List aB)(ps:List (ByteArray × Int × Int))(nx:List Int)(L:Nat)(xs:Array Value)(w:World):Prop where
 m:yy X bs bb nv vv g next w0 Lv cs l0 sv Gf ps nx w
 lx:w.heap[L]?=some (.cells xs 88 (0,0))
 xl:X L
section
variable {X:Nat->Prop}{bs bb:Nat}{nv vv:Value}{g:af}{next:List Int}{w0 w w':World}{Lv L A:Nat}{cs:Value->Array Value}{l0 Gf:List aB}{sv:Value}{ps ps':List (ByteArray × Int × Int)}{nx NT:List Int}{xs:Array Value}
theorem fw.step(h:fw X bs bb nv vv g next w0 Lv cs l0 sv Gf ps nx L xs w)(q:aH (eO X Lv sv) bs bb nv vv w w' nv vv g NT)(ht:fZ g.Gb nx ps' NT):fw X bs bb nv vv g next w0 Lv cs l0 sv Gf (ps++ps') NT L xs w' :=
 ⟨h.m.step q ht,(q.loc h.m.post.bld (.inl h.xl)).trans h.lx,h.xl⟩
theorem fw.below(h:fw X bs bb nv vv g next w0 Lv cs l0 sv Gf ps nx L xs w)(hb:Below w.heap.size w w'):fw X bs bb nv vv g next w0 Lv cs l0 sv Gf ps nx L xs w':=⟨h.m.below hb,(hb.block L (aq h.lx)).trans h.lx,h.xl⟩
theorem fw.read(h:fw X bs bb nv vv g next w0 Lv cs l0 sv Gf ps nx L xs w)(hs:Src w' bs)(hm:cR (fun i=>i=bs) w w'):fw X bs bb nv vv g next w0 Lv cs l0 sv Gf ps nx L xs w' :=
 ⟨h.m.read hs hm,((h.m.post.bld.readPost hs hm).loc h.m.post.bld (.inl h.xl)).trans h.lx,h.xl⟩
theorem fw.fresh(h:fw X bs bb nv vv g next w0 Lv cs l0 sv Gf ps nx L xs w)(o:Obj):fw (fD X w.heap.size) bs bb nv vv g next w0 Lv cs l0 sv Gf ps nx L xs (w.alloc o) :=
 ⟨h.m.fresh o,(cj _ _ _ (aq h.lx)).trans h.lx,.inl h.xl⟩
theorem fw.put(h:fw (fD X A) bs bb nv vv g next w0 Lv cs l0 sv Gf ps nx L xs w)(hA:Lv+1+1<=A)(hsv:sv.ownBlock≠some A)(hne:L≠A)(i:Nat)(u:Value):fw (fD X A) bs bb nv vv g next w0 Lv cs l0 sv Gf ps nx L xs (w.setCell (A,i) u) :=
 ⟨h.m.put hA hsv i u,(bw _ _ _ _ hne).trans h.lx,h.xl⟩
end
theorem mo(w:World)(t:TypeId)(l:List Int):ig (w.alloc (.cells (l.map (Value.int .i64)).toArray t)) w.heap.size 0 l:=fun i v hv=>aD rfl (by simp[hv])
theorem om(l:List aB)(k:Nat)(x:aB)(h:l[k]?=some x):bg (l.take (k+1))=bg (l.take k)+x.length:=by
 rw[take_snoc' l k x h];simp[bg]
theorem Bb(l:List aB)(h:∀x∈l,0<=x.length/\x.length<=1000):0<=bg l/\bg l<=1000*l.length:=by
 induction l with
 |nil=>simp[bg]
 |cons x l ih =>
  have h1:=h x (cG ..);have h2:=ih fun y hy=>h y (kn _ hy);simp only[bg,iu,List.sum_cons,cS]at h2 ⊢;omega
theorem fB.len{l l':List aB}(h:fB l l'):l.length<=l'.length:=by
 induction h with
 |nil=>exact bk _
 |void _ _ _ ih=>simp;omega
 |lin _ _ ih=>simp;omega
 |move _ _ _ ih=>simp;omega
theorem fB.sub{l0 Gf:List aB}{ps ps1:List (ByteArray × Int × Int)}{x:aB}(h:fB l0 Gf)(hs:List.Sublist ((Gf.drop l0.length).flatMap iG) ps)(hx:iG x=ps1):List.Sublist (((Gf++[x]).drop l0.length).flatMap iG) (ps++ps1):=by
 rw[List.drop_append_of_le_length h.len,xt];refine hs.append ?_;simp[hx]
def kX(n:Nat):Code->Option Code
 |.region m o d=>bif Nat.beq m n then some (.region m o d) else none
 |.seq a b=>match kX n a with
  |some c=>some c
  |none=>kX n b
 |.block _ c=>kX n c
 |.loop c=>kX n c
 |.scope c=>kX n c
 |.cond _ a b=>match kX n a with
  |some c=>some c
  |none=>kX n b
 |_=>none
noncomputable def p9(n:Nat):Code:=((Tryz.f15.body.bind (kX n)).getD .skip)
section
variable {X:Nat->Prop}{bs bb:Nat}{nv vv:Value}{g:af}{next:List Int}{w0 w w':World}{Lv L A:Nat}{cs:Value->Array Value}{l0 Gf:List aB}{sv:Value}{ps ps':List (ByteArray × Int × Int)}{nx NT:List Int}{xs:Array Value}
theorem fw.drop(h:fw (fD X A) bs bb nv vv g next w0 Lv cs l0 sv Gf ps nx L xs w)(hX:X L):fw X bs bb nv vv g next w0 Lv cs l0 sv Gf ps nx L xs w:=⟨h.m.drop,h.lx,hX⟩
theorem yy.putX(h:yy X bs bb nv vv g next w0 Lv cs l0 sv Gf ps nx w)(hX:X L)(hL:Lv+1+1<=L)(hsv:sv.ownBlock≠some L)(i:Nat)(u:Value):yy X bs bb nv vv g next w0 Lv cs l0 sv Gf ps nx (w.setCell (L,i) u):=by
 have kk:∀k,k≠L->(w.setCell (L,i) u).heap[k]?=w.heap[k]?:=fun k e=>bw _ _ _ _ e;have hz:(w.setCell (L,i) u).heap.size=w.heap.size:=by simp[World.setCell]
 obtain⟨zs,hzs,hr⟩:=h.br;exact⟨h.post.put L i u (.inl hX) (by have:=h.lv;omega),(kk Lv TcN).trans h.bv,⟨zs,hzs,(kk (Lv+1) TcN).trans hr⟩,h.st.moves bC.moves ⟨TcN,fun b _ ho=>⟨ho,kk b (fun e=>ho.2.2.2 (.inl (e ▸ hX)))⟩⟩ (fun k hk=>kk k (fun e=>hsv (e ▸ hk.1))),h.more,h.took,h.sub,h.len,h.lv,Td8⟩
theorem fw.lit(h:fw X bs bb nv vv g next w0 Lv cs l0 sv Gf ps nx L xs w)(hL:Lv+1+1<=L)(hsv:sv.ownBlock≠some L)(us:Array Value) :
  fw (fD X w.heap.size) bs bb nv vv g next w0 Lv cs l0 sv Gf ps nx L (xs.setIfInBounds 3 (.slice (some w.heap.size) 1 1)) ((w.alloc (.cells us 83)).setCell (Tac L 3) (.slice (some w.heap.size) 1 1)) /\
  ((w.alloc (.cells us 83)).setCell (Tac L 3) (.slice (some w.heap.size) 1 1)).heap[w.heap.size]?=some (.cells us 83 (0,0))/\okB (eO X Lv sv) bb nv vv w.heap.size:=by
 have h1:=h.fresh (.cells us 83);have hlt:=aq h.lx;exact⟨⟨h1.m.putX (.inl h.xl) hL hsv 3 _,block_setCell (i:=3) _ h1.lx,h1.xl⟩,(bw _ _ _ _ (show w.heap.size≠L by omega)).trans (b9 w _),h.m.post.bld.okNew (bk _)⟩
theorem fw.area(h:fw X bs bb nv vv g next w0 Lv cs l0 sv Gf ps nx L xs w)(hk:BOk g next)(d:Nat)(hd:d<g.Gb.length)(n:Int)(hn0:1<=n)(hn1:n<=1000) :
  Calls prog 36 #[.pointer (some bb),.int .i64 d,.int .i64 n] w fun e w'=>∃(on:ByteArray) (s:Int) (ok:Bool) (ps1:List (ByteArray × Int × Int)) (nx1:List Int),e=.returned (.tuple #[.agg (Tas on s),.bool ok])/\(ok=true->ps1=[(on,s,n)]) /\
   fw X bs bb nv vv g next w0 Lv cs l0 sv Gf (ps++ps1) nx1 L xs w'/\w'.heap[bb]?=w.heap[bb]?/\(∀k,X k->w'.heap[k]?=w.heap[k]?):=by
 have dk:=h.m.took.ok hk.dk;obtain⟨D,hD⟩:=aj g.Gb d hd;obtain⟨m,hm⟩:=aj nx d (by rw[dk.len];exact hd);have QK:=dk.nx d m hm;refine(qR (eO X Lv sv) bs bb nv vv g nx _ h.m.post.bld d D m n hD hm QK.1 TcN TcN TcN).mono ?_;rintro e w' (⟨rfl,Q,hb⟩|⟨s,hs1,hs2,rfl,Q,hb⟩)
 ·exact⟨es,0,false,[],nx,rfl,(fun e=>by cases e),h.step Q (.nil _),hb,fun k q=>Q.loc h.m.post.bld (.inl q)⟩
 exact⟨D.name,s,true,[(D.name,s,n)],_,rfl,(fun _=>rfl),h.step Q (.snoc (.nil _) hD hm hs1 hs2 hn0),hb,fun k q=>Q.loc h.m.post.bld (.inl q)⟩
end
theorem oH{w:World}{A:Nat}{t:TypeId}{z0 z1 z2:Value}(h:w.heap[A]?=some (.cells #[z0,z1,z2] t (0,0)))(v0 v1 v2:Value):(((w.setCell A v0).setCell (Tac A 1) v1).setCell (Tac A 2) v2).heap[A]?=some (.cells #[v0,v1,v2] t (0,0)) :=
 block_setCell (i:=2) _ (block_setCell (i:=1) _ (block_setCell (i:=0) _ h))
def iB(kind len:Int)(Ga:Nat):Int:=if kind=2/\0<Ga then len/Ga else len
def Tax(x0:Int)(x1:Int)(x2:Int)(x3:Nat)(x4:Option Addr)(x5:Nat)(x6:Int)(x7:Nat)(x8:Option Addr)(x9:Nat)(x10:ByteArray)(x11:ByteArray)(x12:Int)(x13:Int)(x14:Int):Tab #[.int .i64 x0,.int .i64 x1,.int .i64 x2,.slice x4 x3 x5,.int .i64 x6,.slice x8 x7 x9,.string x10,.string x11,.int .i64 x12,.int .i64 x13,.int .i64 x14]:=⟨⟩
theorem TaW{p:Prop}(h:p:=by
 by_cases hk:kd=2
 ·subst hk;by_cases hz:al=0
  ·subst hz;go_wp2;go_ret;exact⟨by simp[iB],HB.o⟩
  have hd:decide ((0:Int)<(al:Int))=true:=by simp;omega
  have hn:¬(al:Int)=0:=by omega
  have hn1:((al:Int)==0)=false:=by simpa using hz
  have hq0:0<=len/(al:Int):=lz h0 TcN;have hq1:len/(al:Int)<=len:=mS _ h0;have hq2:len.tdiv (al:Int)=len/(al:Int):=CC h0;have hq3:IntKind.i64.wrap (len/(al:Int))=len/(al:Int):=dy _ TcN;go_wp2;go_ret;exact⟨by simp[iB,show 0<al by omega],HB.o⟩
 have hk1:(kd==2)=false:=by simpa using hk
 go_wp2;go_ret;exact⟨by simp[iB,hk],HB.o⟩):p:=h
theorem ji(st len kd ch dev mode dn:Int)(ap sp:Option Addr)(al ac sl sc:Nat)(log pool:ByteArray)(w:World)(h0:0<=len)(h1:len<=9223372036854775807)(ha:al<=1000000) :
  Calls prog 102 #[.agg (Tax st len kd al ap ac ch sl sp sc log pool dev mode dn)] w fun e w'=>e=.returned (.int .i64 (iB kd len al))/\Below w.heap.size w w':=by
 have hb:=ae w (.cells (Tax st len kd al ap ac ch sl sp sc log pool dev mode dn) 88);have HB:=aa hb;clear hb;go_enter func102,ntmps102
 exact TaW
section
variable {n:Nat}{P:Program}{ops:Array Oper}{Q:Exit->Act->World->Prop}{md:Region.Mode}{S:World->Prop}{m:Nat}{N:Nat->Bool}
variable {oi:Oper}{v:Value}{i fuel:Nat}{a:Act}{K:Act->World->Prop}{w w':World}{listed:Array Bool}{f:FuncId}
theorem BV{j:Nat}{oj:Oper}(hj:ops[j]?=some oj)(hap:oi.apart ops oj=true)(Z7:∀cs b,oi.op≠.select cs b)(hsj:∀cs b,oj.op≠.select cs b)
  (hQ:∀c a w,Q (.panic c) (a.put oi.dst v) w->Q (.panic c) a w) {K:Act->World->Prop} {a:Act} {w:World} (hy:YieldsIf P ops S oi v a) (h:wpOpIn Fence.wide n P ops Q j K (a.put oi.dst v) w) :
  wpOpIn Fence.wide n P ops Q j (fun a' w'=>YieldsIf P ops S oi v a'/\K (a'.put oi.dst v) w') a w:=by
 obtain⟨h1,h2,h3⟩:=Oper.apart_spec hap;have keep:∀(a:Act),YieldsIf P ops S oi v a->∀u,YieldsIf P ops S oi v (a.put oj.dst u):=fun a hy u=>hy.of_same (execOp_put oi Z7 a oj.dst u h3) (wanted_put oi a oj.dst u h3);have next:∀u w',K ((a.put oi.dst v).put oj.dst u) w'->YieldsIf P ops S oi v (a.put oj.dst u)/\K ((a.put oj.dst u).put oi.dst v) w':=fun u w' q=>⟨keep a hy u,by rw[<- Act.put_comm a v u h2];exact q⟩;unfold wpOpIn at *;simp only[hj]at *;rw[wanted_put oj a oi.dst v h1]at h
 by_cases hw:Region.wanted oj (yielded ops a.tmps)=true
 ·rw[aw hw]at h ⊢;refine⟨fun _ _=>trivial,?_⟩;have h:=h.2;rw[tI,ub,execOp_put oj hsj a oi.dst v h1]at h;rw[tI,ub];generalize (execOp a.eval oj).run P w=r at *
  match r with
  |.ok (.value u) w'=>exact next u w' h
  |.ok .skip w'=>exact next undef w' h
  |.ok (.defer d) w' =>
   refine⟨keep { a with defers:=d :: a.defers } (hy.of_same rfl rfl) _,?_⟩;rw[<- Act.put_comm _ v undef h2,<- Act.put_defers];exact h
  |.ok (.enter f args) w'=>exact⟨h.1,CallsIn.mono h.2 fun e w'' he=>by
    cases e with
    |returned u=>exact next u w'' he
    |panicked c=>exact hQ _ _ _ he
    |outgrown=>exact he⟩
  |.ok (.row row args) w'=>exact⟨h.1,RowsIn.mono h.2 fun u w'' he=>next u w'' he⟩
  |.ok (.round l f tmps assign body) w'=>exact⟨h.1,RoundIn.mono h.2 fun e w'' he=>by
    cases e with
    |returned u=>exact next u w'' he
    |panicked c=>exact hQ _ _ _ he
    |outgrown=>exact he⟩
  |.halt (.panic u) w'=>exact hQ _ _ _ h
 rw[bh hw]at h ⊢;exact⟨fun _ _=>trivial,next undef w h.2⟩
theorem qU{o:Oper}(hi:ops[i]?=some o)(hy:YieldsIf P ops S o v a)(hS:S w)(h:K (a.put o.dst v) w):wpOpIn Fence.wide n P ops Q i K a w:=by
 unfold wpOpIn;simp only[hi];rcases hy with⟨hw,hv⟩|⟨hw,rfl⟩
 ·rw[aw hw];refine⟨fun _ _=>trivial,?_⟩;rw[tI,ub,hv w hS];exact h
 rw[bh (by rw[hw];exact Bool.false_ne_true)];exact⟨fun _ _=>trivial,h⟩
def jm(n:Nat)(P:Program)(md:Region.Mode)(ops:Array Oper)(Q:Exit->Act->World->Prop)(S:World->Prop)(N:Nat->Bool):Nat->Array Bool->Act->World->Prop
 |0,listed,a,w=>Region.ready md ops listed=[]/\Q .normal a w
 |fuel+1,listed,a,w=>(Region.ready md ops listed=[]->Q .normal a w)/\∀i∈Region.ready md ops listed,wpOpIn Fence.wide n P ops Q i (fun a' w'=>(N i=true->S w')/\jm n P md ops Q S N fuel (listed.setIfInBounds i true) a' w') a w
theorem ng:∀(fuel:Nat) (listed:Array Bool) (a:Act) (w:World),jm n P md ops Q S N fuel listed a w->wpAnyIn Fence.wide n P md ops Q fuel listed a w
 |0,_,_,_,h=>h
 |fuel+1,_,_,_,h=>⟨h.1,fun i hi=>wpOpIn_mono (fun a' w' h'=>ng fuel _ a' w' h'.2) (h.2 i hi)⟩
theorem wz{id:Nat}(n:Nat)(S:World->Prop)(m:Nat)(ws:List Nat)(hm:P.follows .mixedOrders=true)(hS:S w.drew)
  (h:S w.drew->jm n P .any ops Q S (needs m ws) ops.size (Array.replicate ops.size false) a w.drew):(Code.region id ops true).wp P Q a w :=
 (wpIn_wide (n:=n)).1 (wpIn_region_any hm (ng _ _ _ _ (h hS)))
theorem vK(hi:ops[i]?=some oi)(mj:∀(j:Nat) (o:Oper) cs b,ops[j]?=some o->o.op≠.select cs b)
  (hQ:∀c a w,Q (.panic c) (a.put oi.dst v) w->Q (.panic c) a w) :
  ∀(fuel:Nat) (listed:Array Bool) (a:Act) (w:World),lM md ops N listed i=true ->
   (∀j oj,ops[j]?=some oj->j≠i->listed.getD j true=false->(∀e∈oj.after,Region.binds md e=true->e.on≠i)->oi.apart ops oj=true) ->
   NH md ops listed->i∈Region.ready md ops listed->YieldsIf P ops S oi v a->S w ->
   jm n P md ops Q S N fuel (listed.setIfInBounds i true) (a.put oi.dst v) w->jm n P md ops Q S N (fuel+1) listed a w:=by
 intro fuel;induction fuel with
 |zero =>
  intro listed a w _ _ _ hr hy hS H;refine⟨fun h=>Tda,fun j hj=>?_⟩;by_cases nr:j=i
  ·subst nr;exact qU hi hy hS ⟨fun _=>hS,H⟩
  have:=ix hj nr;rw[H.1]at this;cases this
 |succ fuel ih =>
  intro listed a w hl ua hc hr hy hS H;have pN:=(mem_ready.1 hr).1;refine⟨fun h=>Tda,fun j hj=>?_⟩;by_cases nr:j=i
  ·subst nr;exact qU hi hy hS ⟨fun _=>hS,H⟩
  have UY:N j=true:=by
   cases hN:N j with
   |true=>rfl
   |false=>exact absurd hj (nW hc (Gs hl hN (mV hj) (mem_ready.1 hj).1) pN)
  have h1:=H.2 j (ix hj nr);obtain⟨zj,oj,F0,hall⟩:=mem_ready.1 hj;have ao1:∀e∈oj.after,Region.binds md e=true->e.on≠i:=fun e he hb heq=>by
   have h1:=hall e he hb;rw[heq,getD_both pN]at h1;cases h1
  have h2:=BV F0 (ua j oj F0 nr zj ao1) (fun cs b=>mj i oi cs b hi) (fun cs b=>mj j oj cs b F0) hQ hy h1;have pP:∀k ok,ops[k]?=some ok->k≠i->(listed.setIfInBounds j true).getD k true=false ->
    (∀e∈ok.after,Region.binds md e=true->e.on≠i)->oi.apart ops ok=true:=fun k ok hk Ta pN hno=>by
   refine ua k ok hk Ta ?_ hno;by_cases hjk:j=k
   ·subst hjk;exact zj
   rw[ly true hjk]at pN;exact pN
  refine wpOpIn_mono (fun a' w' h3=>⟨h3.2.1,ih (listed.setIfInBounds j true) a' w' (uJ hl) pP (hc.set hj) (ix hr (Ne.symm nr)) h3.1 (h3.2.1 UY) ?_⟩) h2;rw[FA _ _ nr];exact h3.2.2
theorem bQ{d:Tmp}(hi:ops[i]?=some oi)(hd:oi.dst=some d)
  (hb:(Region.noSelect ops&&Region.free md ops listed i&&(Region.ready md ops listed).contains i&&lM md ops N listed i&&BF md ops listed)=true)
  (hQ:∀c a w,Q (.panic c) (a.put (some d) v) w->Q (.panic c) a w) (hy:YieldsIf P ops S oi v a) (hS:S w)
  (h:jm n P md ops Q S N fuel (listed.setIfInBounds i true) (a.put (some d) v) w):jm n P md ops Q S N (fuel+1) listed a w:=by
 simp only[eh]at hb;obtain⟨⟨⟨⟨h1,h2⟩,h3⟩,h4⟩,h5⟩:=hb;rw[<- hd]at hQ h;exact vK hi (XS h1) hQ fuel listed a w h4 (Region.free_spec hi h2) (oK h5) Tdp hy hS h
theorem jh{o:Oper}(hi:ops[i]?=some o)(hw:Region.wanted o (yielded ops a.tmps)=true)(hr:Region.ready md ops listed=[i])
  (h:∀K:Act->World->Prop,Hid (∀a' w',(N i=true->S w')->jm n P md ops Q S N fuel (listed.setIfInBounds i true) a' w'->K a' w')->o.wpIn Fence.wide n P a w K Q):jm n P md ops Q S N (fuel+1) listed a w:=by
 refine⟨fun h0=>Tdn,fun j hj=>?_⟩;rw[hr]at hj;obtain rfl:j=i:=by simpa using hj
 unfold wpOpIn;simp only[hi,hw,ej];exact h _ (aa fun a' w' h1 h2=>⟨h1,h2⟩)
theorem xX(hr:Region.ready md ops listed=[])(h:Q .normal a w):jm n P md ops Q S N 0 listed a w:=⟨hr,h⟩
theorem xI{o:Oper}{args:Array Value}(hr:(execOp a.eval o).run P w=.ok (.enter f args) w')
  (h:Calls P f args w' fun e w''=>match e with|.returned v=>K (a.put o.dst v) w''|.panicked c=>Q (.panic c) a w''|.outgrown=>LetsOut Q):o.wpIn Fence.wide n P a w K Q:=by
 refine⟨fun _ _=>trivial,?_⟩;rw[tI,ub,hr];refine⟨fun q=>by simp[Fence.wide]at q,callsIn_wide.2 (h.mono fun e w'' q=>?_)⟩;cases e<;>exact q
theorem xx{o:Oper}{l:Nat}{tmps:Array Value}{assign body:Code}{n':Nat}(hr:(execOp a.eval o).run P w=.ok (.round l f tmps assign body) w')
  (h:RoundIn Fence.wide n' P l f tmps assign body w' fun e w''=>match e with|.returned v=>K (a.put o.dst v) w''|.panicked c=>Q (.panic c) a w''|.outgrown=>LetsOut Q):o.wpIn Fence.wide n P a w K Q:=by
 refine⟨fun _ _=>trivial,?_⟩;rw[tI,ub,hr];refine⟨fun q=>by simp[Fence.wide]at q,h.1,fun c cs _=>?_⟩;obtain⟨e,w'',q,r⟩:=h.2 c cs (room_wide _);exact⟨e,w'',by cases e<;>exact q,r⟩
theorem o6{o:Oper}(hr:(execOp a.eval o).run P w=.ok (.value v) w')(h:K (a.put o.dst v) w'):o.wpIn Fence.wide n P a w K Q:=by
 refine⟨fun _ _=>trivial,?_⟩;rw[tI,ub,hr];exact h
end
end Go.Proofs.YtillcmhjhajimaaGreatDoor
