/- Lemmas: MkJ. -/
import Derived.Test.YtjdfihglehfelaaGreatDoorPf06
set_option maxRecDepth 100000
set_option maxHeartbeats 32000000
set_option linter.all false
namespace Go.Proofs.YtjdfihglehfelaaGreatDoor
open Go.Proofs.Tryz
open Go.RowKit
def ic (k n:Int)(al:List aR):aB:=⟨0,k*n,2,al,1,[],es,es,0,0,0⟩
def mf (name:ByteArray)(id k n:Int)(al:List aR):ay:=⟨name,id,false,false,[],[ic k n al]⟩
def UO (n:Int)(al:List aR):List (ByteArray × Int × Int):=al.map fun a=>(a.on,a.start,n)
def F6 (X:Nat->Prop)(bs bb:Nat)(nv vv:Value)(g:af)(next:List Int)(name:ByteArray)(w:World)(w':World):Prop :=
 (∃ ps next',fZ g.Gb next ps next'/\aH X bs bb nv vv w w' nv vv g next') \/
 ∃ (k n:Int) (al:List aR) (next':List Int) (pA:Value),2<=k/\k<=3/\1<=n/\n<=2/\(al.length:Int)=k/\(∀ a∈al,a.vol=false)/\fZ g.Gb next (UO n al) next' /\
  aH X bs bb nv vv w w' nv pA { g with next:=g.next+1,F9:=g.F9++[mf name (oX g.id (g.next+1)) k n al] } next'
theorem eW.c0 {X:Nat->Prop}{w:World}{bs bb:Nat}{nv vv:Value}{g:af}{next:List Int}(h:eW X w bs bb nv vv g next):w.cell? ⟨bb,0,none⟩=some (.pointer (some ⟨bs,0,none⟩)):=by
 obtain ⟨tv,dv,hv,e,_,h2,_⟩:=h.blk;simp [World.cell?,e]
def dS (N:Nat)(t:TypeId)(cs:List Value)(b:Nat)(w:World):Prop:=N<=b/\w.heap[b]?=some (.cells cs.toArray t (0,0))
def rS (N:Nat)(w w':World):Prop:=w.heap.size<=w'.heap.size/\∀ k,N<=k->k<w.heap.size->w'.heap[k]?=w.heap[k]?
theorem dS.ev {N b:Nat}{t:TypeId}{cs:List Value}{w w':World}(h:dS N t cs b w)(he:rS N w w'):dS N t cs b w':=⟨h.1,(he.2 b h.1 (aq h.2)).trans h.2⟩
theorem dS.new {N:Nat}{t:TypeId}{cs:List Value}{w:World}(h:N<=w.heap.size):dS N t cs w.heap.size (w.alloc (.cells cs.toArray t)):=⟨h,b9 w _⟩
theorem rS.alloc (N:Nat)(w:World)(o:Obj):rS N w (w.alloc o):=⟨by simp,fun k _ h=>cj _ _ _ h⟩
theorem rS.refl (N:Nat)(w:World):rS N w w:=⟨bk _,fun _ _ _=>rfl⟩
structure CS (Y:Nat->Prop)(bs bb:Nat)(rK rN nv vv:Value)(w wr:World)(g:af)(next:List Int)(w':World):Prop where
 post:aH Y bs bb rK rN w w' nv vv g next
 size:wr.heap.size<=w'.heap.size
 same:∀ k,Y k->w'.heap[k]?=wr.heap[k]?
 oks:∀ k,k<wr.heap.size->okB Y bb nv vv k->w'.heap[k]?=wr.heap[k]?
theorem CS.alloc {Y:Nat->Prop}{bs bb:Nat}{rK rN nv vv:Value}{w wr w':World}{g:af}{next:List Int}(h:CS Y bs bb rK rN nv vv w wr g next w')(o:Obj):CS Y bs bb rK rN nv vv w wr g next (w'.alloc o) :=
 ⟨h.post.after (ae _ _),cA h.size (by simp),fun k hk=>(cj _ _ _ (h.post.bld.xlt k hk).2).trans (h.same k hk),fun k hk ho=>(cj _ _ _ (cC hk h.size)).trans (h.oks k hk ho)⟩
theorem CS.step {Y:Nat->Prop}{bs bb:Nat}{rK rN nv vv:Value}{w wr w' w2:World}{g g':af}{next next':List Int}(h:CS Y bs bb rK rN nv vv w wr g next w')(q:aH Y bs bb nv vv w' w2 nv vv g' next'):CS Y bs bb rK rN nv vv w wr g' next' w2 :=
 ⟨h.post.trans q,cA h.size q.mod.size,fun k hk=>(q.loc h.post.bld hk).trans (h.same k hk),fun k hk ho=>(q.loc' h.post.bld ho (cC hk h.size)).trans (h.oks k hk ho)⟩
theorem CS.ev {Y:Nat->Prop}{bs bb:Nat}{nv vv:Value}{wr w' w2:World}{g g':af}{next next':List Int}(h:eW Y wr bs bb nv vv g next)(q:aH Y bs bb nv vv w' w2 nv vv g' next'):rS wr.heap.size w' w2 :=
 ⟨q.mod.size,fun k h1 h2=>q.mod.block k h2 (h.nfp h1)⟩
def rZ (X:Nat->Prop)(L:Nat)(av:Value):Nat->Prop:=fun k=>X k\/k=L\/av.ownBlock=some k
theorem aH.pushOwn {α:Type}{V:jx α}{sz:Nat}{t:TypeId}{ok:Nat->Prop}{X:Nat->Prop}{w w1 w2:World}{bs bb L i B gb cap:Nat}{rK rN nv vv av:Value}{g:af}{next:List Int}{l:List α}{p:α}{u:List Value}(h:aH (rZ X L av) bs bb rK rN w w1 nv vv g next)
  (hL:w.heap.size<=L) (MM:L<w1.heap.size) (hB:L<B) (B4:∀ b,av.ownBlock=some b->B<=b) (hp:jN V sz t B ok w1 av l p u gb cap w2) :
  aH (rZ X L (.slice (some ⟨gb,0,none⟩) (l.length+1) cap)) bs bb rK rN w (w2.setCell ⟨L,i,none⟩ (.slice (some ⟨gb,0,none⟩) (l.length+1) cap)) nv vv g next/\w2.heap[L]?=w1.heap[L]?/\gb≠L/\B<=gb:=by
 have hgb:B<=gb/\gb<w2.heap.size:=by
  obtain ⟨cs,ho,_⟩:=hp.own;exact ho.lt gb rfl
 refine ⟨h.move (((cR.mk hp.grown.os hp.grown.tape hp.grown.output hp.grown.size fun k hk hn=>hp.grown.block k hk fun e=>hn ⟨.inr (.inr e.symm),?_⟩:cR (fun k=>rZ X L av k/\w.heap.size<=k) w1 w2)).setCell (p:=⟨L,i,none⟩) (.inl ⟨.inr (.inl rfl),hL⟩) _) (fun k hk=>?_),hp.grown.block L MM (fun e=>by have:=B4 L e.symm;omega),by omega,hgb.1⟩
 ·have:=B4 k e.symm
  omega
 ·rcases hk with q | q | q
  ·exact .inl (.inl q)
  ·exact .inl (.inr (.inl q))
  ·obtain rfl:gb=k:=by injection q
   rcases hp.at' with q | q
   ·exact .inl (.inr (.inr q))
   ·exact .inr ⟨by omega,by simp [World.setCell];omega⟩
theorem vX (X:Nat->Prop)(bs bb:Nat)(nv vv:Value)(g:af)(next:List Int)(w:World)(h:eW X w bs bb nv vv g next)(hk:Ld g next)(name:ByteArray) :
  Calls prog 45 #[.pointer (some ⟨bb,0,none⟩),.string name] w (fun e w'=>e=.returned (.tuple #[])/\F6 X bs bb nv vv g next name w w'):=by
 have k0:=hk.n0;have k1:=hk.n1;have k2:=hk.dk.pos;have k3:=hk.dk.le;have k4:=hk.vl;have c0:=h.c0;have cX:=h.Gj;have gO:=h.lt;have sy:¬ bb=bs:=by omega
 go_enter func45,ntmps45;go_wp2;refine aL (fun w'=>w'.cell? ⟨bb,0,none⟩=some (.pointer (some ⟨bs,0,none⟩))) 10 [0,1,2,5,6,7] (by kernel_rfl) c0 (fun hHeld=>?_);refine fz 0 ?_;try simp only [ak];refine fz 1 ?_;try simp only [ak];refine fz 2 ?_;try simp only [ak];refine fz 5 ?_;try simp only [ak];refine fz 6 ?_;try simp only [ak];refine fz 7 ?_;try simp only [ak];refine fS 3 hHeld ?_;try simp only [ak];refine fS 8 hHeld ?_;try simp only [ak];refine lR 4 fun K hK=>?_;go_simp;refine (bO bs 2 3 _ (by omega) (by omega) (by omega) (h.below ((bj _ _).drew)).src).mono ?_;rintro e w1 ⟨v,rfl,hv1,hv2,hs,hm⟩;refine hK.o _ _ ((hm.cell (p:=⟨bb,0,none⟩) cX sy).trans c0) ?_;clear hK K;refine lR 9 fun K hK=>?_;go_simp;have OS:bb<w1.heap.size:=cC cX hm.size;refine (bO bs 1 2 _ (by omega) (by omega) (by omega) hs).mono ?_;rintro e w2 ⟨n,rfl,hn1,hn2,hs2,hm2⟩;refine hK.o _ _ ((hm2.cell (p:=⟨bb,0,none⟩) OS sy).trans ((hm.cell (p:=⟨bb,0,none⟩) cX sy).trans c0)) ?_;clear hK K;refine aP (by kernel_rfl) rfl ?_;simp only [cQ,cL];have P2:aH X bs bb nv vv w w2 nv vv g next:=((aH.refl h).drewN 1).read hs hm |>.read hs2 hm2;clear hm hm2 hs hs2;obtain ⟨v,rfl⟩:∃ u:Nat,v=u:=⟨v.toNat,by omega⟩;have hb1:0<=(v:Int)*n/\(v:Int)*n<=6:=by rcases (show n=1\/n=2 by omega) with rfl | rfl <;> omega
 have hb2:=hb1.1;have hb3:=hb1.2;clear hb1;go_wp2;have TP:w.heap.size<=w2.heap.size:=P2.mod.size
 have P3:=P2.fresh (Y:=rZ X w2.heap.size (.slice none 0 0)) (ae w2 (.cells #[.int .i64 0,.int .i64 (v*n),.int .i64 2,.slice none 0 0,.int .i64 1,.slice none 0 0,.string es,.string es,.int .i64 0,.int .i64 0,.int .i64 0] 79)) (by
  rintro k (q | rfl | q)
  ·exact .inl q
  ·exact .inr ⟨bk _,by simp⟩
  ·cases q)
 have HL:=aa (b9 w2 (.cells #[.int .i64 0,.int .i64 (v*n),.int .i64 2,.slice none 0 0,.int .i64 1,.slice none 0 0,.string es,.string es,.int .i64 0,.int .i64 0,.int .i64 0] 79));generalize hL:w2.heap.size=L at *;have ZM:=aa hL;clear hL
 go_loopw [7] (fun i wr=>∃ (k:Nat) (av:Value) (al:List aR) (next':List Int),k<=v/\i=.int .i64 k/\al.length=k/\(∀ a∈al,a.vol=false)/\fZ g.Gb next (UO n al) next'/\aH (rZ X L av) bs bb nv vv w wr nv vv g next'/\bF aQ 3 60 (L+1) (fun _=>False) wr av al /\
   wr.heap[L]?=some (.cells #[.int .i64 0,.int .i64 (v*n),.int .i64 2,av,.int .i64 1,.slice none 0 0,.string es,.string es,.int .i64 0,.int .i64 0,.int .i64 0] 79 (0,0))) (fun i _=>v - (intOf i).toNat)
 case atStart=>exact ⟨0,_,[],_,by omega,rfl,rfl,by simp,.nil _,P3,⟨[],gS _ _ _ 3,rfl⟩,HL.o⟩
 case round =>
  obtain ⟨k,av,al,next',IQ,rfl,Jb,pS,DB,P,B4,K0⟩:=hrel;have NQ:=aa K0;clear K0;have HV:=aa pS;clear pS;have Qb:=aa Jb;clear Jb;have dk:=DB.ok hk.dk;obtain ⟨dp,ir,c7,l1,l2⟩:=P.bld.c7
  by_cases hlt:k<v
  ·have oY:(k:Int) % (g.Gb.length:Int)=((k % g.Gb.length:Nat):Int):=by simp
   have CD:k % g.Gb.length<g.Gb.length:=Nat.mod_lt _ k2;generalize hd:k % g.Gb.length=d at *;have ZN:=aa hd;clear hd;obtain ⟨D,hD⟩:=aj g.Gb d CD;obtain ⟨m,hm⟩:=aj next' d (by rw [dk.len];exact CD);have QK:=dk.nx d m hm;have HD:=aa hD;clear hD;have HM:=aa hm;clear hm
   go_wp2_with fail
   refine (qR (rZ X L av) bs bb nv vv _ next' _ P.bld d D m n HD.o HM.o QK.1 (by omega) (by omega) (by omega)).mono ?_;rintro e w3 (⟨rfl,Q,_⟩ | ⟨s,hs1,hs2,rfl,Q,_⟩)
   ·go_wp2
    refine eC (results_none rfl _ _ _) rfl ⟨rfl,.inl ⟨_,_,DB,((P.trans Q).after (ae _ _)).fewer (fun k hk=>.inl hk)⟩⟩
   ·have R3:=P.trans Q
    have QP:=aa ((Q.loc P.bld (.inr (.inl rfl))).trans NQ.o)
    have QQ:bF aQ 3 60 (L+1) (fun _=>False) w3 av al:=by
     obtain ⟨cs,ho,hf⟩:=B4;exact ⟨cs,aC ho fun b e=>Q.loc P.bld (.inr (.inr e)),Flat.moves aQ.moves ⟨Q.mod.size,fun _ _ f=>f.elim⟩ _ _ hf⟩
    have MM:L<w3.heap.size:=aq QP.o;have ZV:∀ o,(w3.alloc o).cell? ⟨L,3,none⟩=some av:=fun o=>by simp [World.cell?,cj _ _ _ MM,QP.o]
    obtain ⟨i0,hi,hz0,hz1,hz2⟩:=ei kL;have HI:=aa hi;clear hi;have H0:=aa hz0;clear hz0;have H1:=aa hz1;clear hz1;have H2:=aa hz2;clear hz2;have JI:al.length<=1000000:=by have:=Qb.o;omega
    have Lg:Below w3.heap.size w3 ((w3.alloc (.cells #[.bool false,.string D.name,.int .i64 s] 60)).alloc (.cells #[.bool false,.string D.name,.int .i64 s] 60)):=((bj _ _).alloc (bk _) _).alloc (by simp) _
    go_wp2_with (at_builtin;refine dX aQ.moves underlying57 HI.o H0.o H1.o H2.o rfl (by decide) (by decide) rfl _ _ rfl (L+1) (fun _=>False) av al ⟨false,D.name,s⟩ rfl ?c1 (w3.heap.size+1) 1 [.bool false,.string D.name,.int .i64 s] rfl rfl rfl ?c2 ?c3 JI ?c4 (fun _ _ f=>f) ?_)
    case c1 =>
     obtain ⟨cs,ho,hf⟩:=QQ;exact ⟨cs,eF ho fun i h1 h2=>Lg.block i h2,Flat.moves aQ.moves ⟨Lg.size,fun _ _ f=>f.elim⟩ _ _ hf⟩
    case c2=>simp [Value.oneCell']
    case c3 =>
     intro j y hy;exact aD (by simp) (by simpa using hy)
    case c4=>simp;omega
    intro gb cap w4 hp
    obtain ⟨R5,e4,K2,TR⟩:=(R3.after Lg).pushOwn (i:=3) TP (by have:=Lg.size;omega) (Nat.lt_succ_self L) (fun b e=>by
     obtain ⟨cs,ho,_⟩:=QQ
     exact (ho.lt b e).1) hp
    have e5:=e4.trans (Lg.block L MM);have y3:=(cd (w:=w3) (w':=w4) (a:=⟨L,3,none⟩) e5).trans (show w3.cell? ⟨L,3,none⟩=some av by simp [World.cell?,QP.o]);have yf:=(rh (w:=w3) (w':=w4) (a:=⟨L,3,none⟩) e5).trans (show w3.frozen? ⟨L,3,none⟩=false by simp [World.frozen?,QP.o]);have ZW:=aa (e5.trans QP.o);have HP:=aa hp;clear hp e4 e5 ZV;go_wp2;go_roundw
    case rel =>
     refine ⟨k+1,_,al++[⟨false,D.name,s⟩],_,by omega,by go_num,by rw [cD,Qb.o];rfl,fun a ha=>?_,?_,R5,?_,?_⟩
     ·rcases List.mem_append.1 ha with q | q
      ·exact HV.o a q
      ·simp at q
       rw [q]
     ·rw [UO,gl]
      exact .snoc DB HD.o HM.o hs1 hs2 hn1
     ·obtain ⟨cs,ho,hf⟩:=HP.o.own
      refine ⟨cs,aC ho fun b e=>?_,Flat.moves aQ.moves ⟨by simp [World.setCell],fun _ _ f=>f.elim⟩ _ _ hf⟩;obtain rfl:gb=b:=by injection e
      exact bw _ _ _ _ K2
     ·exact block_setCell (cs:=#[_,_,_,_,_,_,_,_,_,_,_]) (i:=3) _ ZW.o
    case measure=>simp [intOf];omega
  ·obtain rfl:k=v:=by omega
   have c8:=P.bld.c8;have MM:L<wr.heap.size:=aq NQ.o
   have qL:=cr NQ.o
   obtain ⟨q0,q1,q2,q3,q4,q5,q6,q7,q8,q9,q10⟩:=IC qL;have ZQ:=aa qL;clear qL;go_wp2;refine aL (fun w'=>w'.cell? ⟨bb,8,none⟩=some vv/\w'.cell? ⟨L,0,none⟩=some (.int .i64 0)/\w'.cell? ⟨L,1,none⟩=some (.int .i64 (k*n))/\w'.cell? ⟨L,2,none⟩=some (.int .i64 2)/\w'.cell? ⟨L,3,none⟩=some av/\w'.cell? ⟨L,4,none⟩=some (.int .i64 1)/\w'.cell? ⟨L,5,none⟩=some (.slice none 0 0)/\w'.cell? ⟨L,6,none⟩=some (.string es)/\w'.cell? ⟨L,7,none⟩=some (.string es)/\w'.cell? ⟨L,8,none⟩=some (.int .i64 0)/\w'.cell? ⟨L,9,none⟩=some (.int .i64 0)/\w'.cell? ⟨L,10,none⟩=some (.int .i64 0)) 13 [0,1,2,3,4,6,7] (by kernel_rfl) (by simp [c8,q0,q1,q2,q3,q4,q5,q6,q7,q8,q9,q10]) (fun hHeld=>?_);refine fz 0 ?_;try simp only [ak];refine fz 1 ?_;try simp only [ak];refine fz 2 ?_;try simp only [ak];refine fz 3 ?_;try simp only [ak];refine fz 4 ?_;try simp only [ak];refine fz 6 ?_;try simp only [ak];refine fz 7 ?_;try simp only [ak];refine fS 5 hHeld ?_;try simp only [ak];refine fS 9 hHeld ?_;try simp only [ak];generalize Lh:oX g.id (g.next+1)=mz;have Mp:=aa Lh;clear Lh;clear q0 q1 q2 q3 q4 q5 q6 q7 q8 q9 q10 c8 c7;have HC0:CS (rZ X L av) bs bb nv vv nv vv w wr.drew g next' wr.drew:=⟨P.drewN 1,bk _,fun _ _=>rfl,fun _ _ _=>rfl⟩
   have U4:bF aQ 3 60 (L+1) (fun _=>False) wr.drew av al:=by
    obtain ⟨cs,ho,hf⟩:=B4;exact ⟨cs,ho,Flat.moves (ok:=fun _=>False) (w:=wr) (w':=wr.drew) aQ.moves ⟨bk _,fun _ _ f=>f.elim⟩ _ _ hf⟩
   generalize hwr:wr.drew=wd at *;have pB:eW (rZ X L av) wd bs bb nv vv g next':=HC0.post.bld
   have ZX:Hid (wd.heap[L]?=some (.cells #[.int .i64 0,.int .i64 (k*n),.int .i64 2,av,.int .i64 1,.slice none 0 0,.string es,.string es,.int .i64 0,.int .i64 0,.int .i64 0] 79 (0,0))):=by
    rw [<- hwr];exact NQ.o
   clear hwr
   refine fE (idx:=[(8,59),(10,61),(11,62),(12,63)])
    (fun i=>[i]) (fun i vs w'=>match i with
     | 8=>vs 8=.int .u64 mz
     | 10=>∃ b,vs 10=.slice (some ⟨b,0,none⟩) 1 1/\dS wd.heap.size 79 [.int .i64 0,.int .i64 (k*n),.int .i64 2,av,.int .i64 1,.slice none 0 0,.string es,.string es,.int .i64 0,.int .i64 0,.int .i64 0] b w'
     | 11=>∃ b,vs 11=.agg #[.string name,.int .u64 mz,.bool false,.bool false,.slice none 0 0,.slice (some ⟨b,0,none⟩) 1 1]/\dS wd.heap.size 79 [.int .i64 0,.int .i64 (k*n),.int .i64 2,av,.int .i64 1,.slice none 0 0,.string es,.string es,.int .i64 0,.int .i64 0,.int .i64 0] b w'
     | 12=>∃ c b,vs 12=.slice (some ⟨c,0,none⟩) 1 1/\dS wd.heap.size 55 [.string name,.int .u64 mz,.bool false,.bool false,.slice none 0 0,.slice (some ⟨b,0,none⟩) 1 1] c w'/\dS wd.heap.size 79 [.int .i64 0,.int .i64 (k*n),.int .i64 2,av,.int .i64 1,.slice none 0 0,.string es,.string es,.int .i64 0,.int .i64 0,.int .i64 0] b w'
     | _=>True)
    (fun d w'=>CS (rZ X L av) bs bb nv vv nv vv w wd { g with next:=if d 8=true then g.next+1 else g.next } next' w') (fun _=>rS wd.heap.size) (by kernel_rfl) rfl ?cs ?st (fun _ _ _ _ h=>h) ?c0 ?ob ?fin
   case c0=>exact HC0
   case cs =>
    intro d w' hC;have e:=(hC.same L (.inr (.inl rfl))).trans ZX.o;refine ⟨hC.post.bld.c8,?_⟩;simp [World.cell?,e]
   case st =>
    intro p hp q _ _ vs us w1 w2 ha hF he;simp only [dr,cY,dg] at hp;rcases hp with rfl | rfl | rfl | rfl
    ·exact (ha 8 (cG ..)).trans hF
    ·obtain ⟨b,e,hb⟩:=hF
     exact ⟨b,(ha 10 (cG ..)).trans e,hb.ev he⟩
    ·obtain ⟨b,e,hb⟩:=hF
     exact ⟨b,(ha 11 (cG ..)).trans e,hb.ev he⟩
    ·obtain ⟨c,b,e,hc,hb⟩:=hF
     exact ⟨c,b,(ha 12 (cG ..)).trans e,hc.ev he,hb.ev he⟩
   case ob =>
    refine kA.cons (deps:=[]) rfl rfl (by kernel_rfl) (fun vs d w' h0 hC hF K hK=>?_) ?_
    ·clear hF
     simp only at h0;simp only [h0,pj,fY] at hC;have hb:=hC.post.bld;simp only [over,cq,Act.put];go_simp;refine (vS (rZ X L av) bs bb nv vv g next' w' hb (by omega) (by omega)).mono ?_;rintro e w2 ⟨rfl,q⟩;refine hK.o (.int .u64 (oX g.id (g.next+1))) w2 ?_ (CS.ev pB q) ((aw rfl).trans (fj (Value.int .u64) Mp.o)) _ ?_
     ·simp only [h0,nj,BEq.rfl,ej]
      exact hC.step q
     ·simp only [over,cq,aS]
    refine kA.cons (deps:=[]) rfl rfl (by kernel_rfl) (fun vs d w' h0 hC hF K hK=>?_) ?_
    ·clear hF
     simp only [over,cq,Act.put];go_simp;refine hK.o (.slice (some ⟨w'.heap.size,0,none⟩) 1 1) _ ?_ (rS.alloc _ _ _) ⟨_,aw rfl,dS.new hC.size⟩ _ ?_
     ·simp only [show (d 8||(8:Nat) == 10)=d 8 from by simp]
      exact hC.alloc _
     ·simp only [over,cq,aS]
    refine kA.cons (deps:=[(8,59),(10,61)]) rfl rfl (by kernel_rfl) (fun vs d w' h0 hC hF K hK=>?_) ?_
    ·have f8:=(hF (8,59) (by simp)).2
     have f10:=(hF (10,61) (by simp)).2;clear hF;simp only [over,cq,cF,aS] at f8 f10 ⊢;obtain ⟨b,e10,hb⟩:=f10;rw [f8,e10] at ⊢;go_simp;refine hK.o (.agg #[.string name,.int .u64 mz,.bool false,.bool false,.slice none 0 0,.slice (some ⟨b,0,none⟩) 1 1]) _ ?_ (rS.refl _ _) ⟨_,aw rfl,hb⟩ _ ?_
     ·simp only [show (d 8||(8:Nat) == 11)=d 8 from by simp]
      exact hC
     ·simp only [over,cq,cF,aS,f8,e10]
    refine kA.cons (deps:=[(11,62)]) rfl rfl (by kernel_rfl) (fun vs d w' h0 hC hF K hK=>?_) trivial
    ·have f11:=(hF (11,62) (by simp)).2
     clear hF;simp only [over,cq,cF,aS] at f11 ⊢;obtain ⟨b,e11,hb⟩:=f11;rw [e11] at ⊢;go_simp;refine hK.o (.slice (some ⟨w'.heap.size,0,none⟩) 1 1) _ ?_ (rS.alloc _ _ _) ⟨_,b,aw rfl,dS.new hC.size,hb.ev (rS.alloc _ _ _)⟩ _ ?_
     ·simp only [show (d 8||(8:Nat) == 12)=d 8 from by simp]
      exact hC.alloc _
     ·simp only [over,cq,cF,aS,e11]
   case fin =>
    intro vs d w' hC hF;have f8:=(hF (8,59) (by simp)).2;have f10:=(hF (10,61) (by simp)).2;have f11:=(hF (11,62) (by simp)).2;have f12:=(hF (12,63) (by simp)).2;have hd8:=(hF (8,59) (by simp)).1;clear hF;simp only [over,cq,cF,aS,cQ,cL] at f8 f10 f11 f12 hd8 ⊢;obtain ⟨c,b,e12,hc,hb⟩:=f12;rw [e12];simp only [hd8,ej] at hC;generalize vs 8=v8;generalize vs 10=v10;generalize vs 11=v11;clear f8 f10 f11 hd8 e12;have P':aH X bs bb nv vv w w' nv vv { g with next:=g.next+1 } next':=hC.post.fewer fun k hk=>.inl hk
    have TS:eW X wd bs bb nv vv g next':=pB.fewer fun k hk=>.inl hk;have hbl:=P'.bld.Gj
    have RA:ck aQ 3 (okB X bb nv vv) w' [av] al:=by
     have ha:bF aQ 3 60 (L+1) (fun _=>False) w' av al:=by
      obtain ⟨cs,ho,hf⟩:=U4;exact ⟨cs,aC ho fun b e=>hC.same b (.inr (.inr e)),Flat.moves aQ.moves ⟨hC.size,fun _ _ f=>f.elim⟩ _ _ hf⟩
     refine ha.rd aQ.moves (by decide) (fun _ _ f=>f.elim) (fun b e=>⟨(pB.xlt b (.inr (.inr e))).1,fun q=>pB.xn b q (.inr (.inr e)),fun q=>pB.xv b q (.inr (.inr e)),fun hx=>?_⟩);obtain ⟨cs,ho,_⟩:=ha;have:=(ho.lt b e).1;have:=(h.xlt b hx).2;omega
    have RV:aN (okB X bb nv vv) w' [.string name,.int .u64 mz,.bool false,.bool false,.slice none 0 0,.slice (some ⟨b,0,none⟩) 1 1] (mf name mz k n al) :=
     ⟨_,_,rfl,ck.nil,ck.one hb.2 (TS.okNew hb.1) rfl ⟨_,_,rfl,RA,ck.nil⟩⟩
    have kf:=P'.bld.ready RV w' (bj _ _);obtain ⟨i0,hi,hz0,hz1,hz2⟩:=ei zT;refine dX aN.moves underlying28 hi hz0 hz1 hz2 rfl (by decide) (by decide) rfl _ _ (by rfl) (bb+1) (fun b=>okB X bb nv vv b/\b<w'.heap.size) vv g.F9 (mf name mz k n al) (by rfl) kf.1 c 1 [.string name,.int .u64 mz,.bool false,.bool false,.slice none 0 0,.slice (some ⟨b,0,none⟩) 1 1] (by rfl) (by rfl) kf.2 (by simp [Value.oneCell']) (fun j y hy=>?_) (by omega) (by omega) p8 (fun gb cap w3 hp=>?_)
    ·simp only [World.cell?,hc.2]
     simpa using hy
    ·obtain ⟨hx1,hx2⟩:=P'.bld.pushKeeps (bj _ _) hp
     have y8:=(cd (w:=w') (w':=w3) (a:=⟨bb,8,none⟩) hx1).trans P'.bld.c8;have yf:=(rh (w:=w') (w':=w3) (a:=⟨bb,8,none⟩) hx1).trans (P'.bld.bfr 8);have R5:=P'.push (bj _ _) hp (bk _);clear hp hx1 hx2 kf RV RA hC hc hb hi hz0 hz1 hz2;simp only [aS];go_wp2
     go_end0
     have hv:=Mp.o;subst hv;exact ⟨rfl,.inr ⟨k,n,al,next',_,hv1,hv2,hn1,hn2,by rw [Qb.o],HV.o,DB,R5⟩⟩
end Go.Proofs.YtjdfihglehfelaaGreatDoor
