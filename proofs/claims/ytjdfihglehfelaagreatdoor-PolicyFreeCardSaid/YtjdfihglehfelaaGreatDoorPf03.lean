/- Lemmas: MkC. -/
import Derived.Test.YtjdfihglehfelaaGreatDoorPf02
import Derived.Deep.DeepCutAuto
import Derived.Deep.CutBlock
set_option maxRecDepth 100000
set_option maxHeartbeats 32000000
set_option linter.all false
namespace Go.Proofs.YtjdfihglehfelaaGreatDoor
open Go.Proofs.Tryz
open Go.RowKit
theorem eW.at {X:Nat->Prop}{w:World}{bs bb:Nat}{nv vv:Value}{g:af}{next:List Int}(h:eW X w bs bb nv vv g next){d:Nat}{D:az}{m:Int}(hd:g.Gb[d]?=some D)(hn:next[d]?=some m) :
  ∃ db Kv ir nb ki,w.cell? ⟨bb,0,none⟩=some (.pointer (some ⟨bs,0,none⟩))/\w.cell? ⟨bb,7,none⟩=some (.slice (some ⟨db,Kv,none⟩) g.Gb.length ir)/\nv=.slice (some ⟨nb,0,none⟩) next.length ki/\w.cell? ⟨bb,10,none⟩=some (.slice (some ⟨nb,0,none⟩) next.length ki) /\
   w.cell? ⟨nb,d,none⟩=some (.int .i64 m)/\w.frozen? ⟨nb,d,none⟩=false/\w.cell? ⟨db,Kv+d*7,none⟩=some (.string D.name)/\w.cell? ⟨db,Kv+d*7+3,none⟩=some (.int .i64 D.Gc) /\
   g.Gb.length<=ir/\ir<=9223372036854775807/\next.length<=ki/\ki<=9223372036854775807/\bb<nb/\nb<w.heap.size/\bb<db/\db≠nb/\db<w.heap.size/\d<g.Gb.length/\d<next.length:=by
 have CD:d<g.Gb.length:=(List.getElem?_eq_some_iff.1 hd).1;have zr:d<next.length:=(List.getElem?_eq_some_iff.1 hn).1;obtain ⟨tv,dv,hv,e,_,h2,_⟩:=h.blk;obtain ⟨p,ir,ed,k1,k2,k3⟩:=h2;obtain ⟨db,Kv,rfl,k4,k5,k6⟩:=k3 (by omega);simp only [rp,and_true] at ed;subst ed;obtain ⟨u,u1,⟨t,rfl,_⟩,u3⟩:=k6 d D hd;have ho:=h.ownN;have ho2:=ho;rcases ho2.2 with ⟨_,hz⟩ | ⟨nb,ki,cur,rfl,hb,hg,vr,hcm,hcs,ht⟩
 ·omega
 ·refine ⟨db,Kv,ir,nb,ki,cr e _ _ rfl,cr e _ _ rfl,rfl,cr e _ _ rfl,?_,ho.frozenAt _,?_,?_,k1,k2,vr,by unfold maxLen at hcm;omega,by omega,(Array.getElem?_eq_some_iff.1 hg).1,k5.1,?_,k4,CD,zr⟩
  ·have:=ho.cellAt d (by omega)
   rw [this];simp [hn]
  ·simpa using u3 0 _ rfl
  ·simpa using u3 3 _ rfl
  ·intro e
   exact k5.2.1 (by rw [e];rfl)
theorem eW.setNext {X:Nat->Prop}{w:World}{bs bb nb ki:Nat}{vv:Value}{g:af}{next:List Int}(h:eW X w bs bb (.slice (some ⟨nb,0,none⟩) next.length ki) vv g next)(d:Nat)(z:Int):eW X (w.setCell ⟨nb,d,none⟩ (.int .i64 z)) bs bb (.slice (some ⟨nb,0,none⟩) next.length ki) vv g (next.set d z):=by
 have hown:=h.ownN;have sy:bb<nb:=by have:=hown.lt nb rfl;omega
 have hl:=h.lt;have hk:∀ k,k≠nb->(w.setCell ⟨nb,d,none⟩ (.int .i64 z)).heap[k]?=w.heap[k]?:=fun k hk=>bw _ _ _ _ hk;have hz:w.heap.size<=(w.setCell ⟨nb,d,none⟩ (.int .i64 z)).heap.size:=by simp [World.setCell]
 have hm:Mv (okB X bb (.slice (some ⟨nb,0,none⟩) next.length ki) vv) (okB X bb (.slice (some ⟨nb,0,none⟩) next.length ki) vv) w (w.setCell ⟨nb,d,none⟩ (.int .i64 z)):=⟨hz,fun b _ ho=>⟨ho,hk b (fun e=>ho.2.1 (by rw [e];rfl))⟩⟩;refine ⟨h.src.keep fun i hi=>hk i (by omega),hl,?_,?_,?_,h.ne,fun k hx=>⟨(h.xlt k hx).1,cC (h.xlt k hx).2 hz⟩,h.xn,h.xv⟩
 ·obtain ⟨tv,dv,hv,e,h1,h2,h3⟩:=h.blk
  exact ⟨tv,dv,hv,(hk bb (by omega)).trans e,(ck.moves aF.moves).mv hm h1,(ck.moves aO.moves).mv hm h2,h3⟩
 ·have h2:=(hown.stored d (.int .i64 z)).1
  unfold eG;rw [List.length_set,List.map_set];exact h2
 ·obtain ⟨cs,ho,hf⟩:=h.ownV
  refine ⟨cs,?_,Flat.moves aN.moves hm _ _ hf⟩;exact ownsRow_setCell_other ho (fun e=>h.ne nb rfl e) _
theorem eW.readPost {X:Nat->Prop}{w w':World}{bs bb:Nat}{nv vv:Value}{g:af}{next:List Int}(h:eW X w bs bb nv vv g next)(hs:Src w' bs)(hm:cR (fun i=>i=bs) w w'):aH X bs bb nv vv w w' nv vv g next :=
 ⟨h.read hs hm,hm.mono (fun _ hk=>.inl hk),fun _ hk=>.inl hk,fun _ hk=>.inl hk⟩
theorem fu {w:World}{N b o:Nat}{cs:Array Value}{t:TypeId}{v:Value}(hb:b<w.heap.size)(h:w.cell? ⟨b,o,none⟩=some v):((w.drewN N).alloc (.cells cs t)).cell? ⟨b,o,none⟩=some v :=
 (cd (w:=w) (cj (w.drewN N) _ _ hb)).trans h
theorem xP {w:World}{N i:Nat}{cs:Array Value}{t:TypeId}:((w.drewN N).alloc (.cells cs t)).frozen? ⟨w.heap.size,i,none⟩=false:=by
 have h:((w.drewN N).alloc (.cells cs t)).heap[w.heap.size]?=some (.cells cs t (0,0)):=b9 (w.drewN N) _;unfold World.frozen?;simp only [h];simp
theorem mD {a b:World}{p:Addr}{u:Value}(h:a.heap[p.block]?=b.heap[p.block]?):(a.setCell p u).heap[p.block]?=(b.setCell p u).heap[p.block]?:=by
 simp only [World.setCell,BW,ej];rw [h]
theorem cR.alloc {F:Nat->Prop}{a w:World}(h:cR F a w)(o:Obj):cR F a (w.alloc o) :=
 h.trans (G:=fun _=>False) (cR.of_below ((bj _ _).alloc (bk _) _)) (fun _ f=>f.elim)
theorem eW.nextPost {X:Nat->Prop}{w w1 w2:World}{bs bb nb ki d:Nat}{vv:Value}{g:af}{next:List Int}{z:Int}(h:eW X w bs bb (.slice (some ⟨nb,0,none⟩) next.length ki) vv g next)(hs:Src w1 bs)(hm:cR (fun i=>i=bs) w w1)
  (h2:cR (fun k=>w.heap.size<=k) (w1.setCell ⟨nb,d,none⟩ (.int .i64 z)) w2):aH X bs bb (.slice (some ⟨nb,0,none⟩) next.length ki) vv w w2 (.slice (some ⟨nb,0,none⟩) next.length ki) vv g (next.set d z):=by
 have hown:=h.ownN;have sy:bb<nb/\nb<w.heap.size:=by have:=hown.lt nb rfl;omega
 have hl:=h.lt;have hz1:(w1.setCell ⟨nb,d,none⟩ (.int .i64 z)).heap.size=w1.heap.size:=by simp [World.setCell]
 have hz:=hm.size;have k2:∀ k,k<w.heap.size->w2.heap[k]?=(w1.setCell ⟨nb,d,none⟩ (.int .i64 z)).heap[k]?:=fun k hk=>h2.block k (by omega) (by omega);refine ⟨(h.setNext d z).keep ?_ ?_ ?_,?_,fun _ hk=>.inl hk,fun _ hk=>.inl hk⟩
 ·exact hs.keep fun i hi=>(k2 i (by omega)).trans (bw _ _ _ _ (by simp;omega))
 ·have:=h2.size
  simp [World.setCell] at this ⊢;omega
 ·intro k h3 h4 _
  have h4':k<w.heap.size:=by simpa [World.setCell] using h4
  rw [k2 k h4']
  by_cases e:k=nb
  ·subst e
   exact mD (p:=⟨k,d,none⟩) (hm.block k h4' (by omega))
  ·rw [bw _ _ _ _ e,bw _ _ _ _ e]
   exact hm.block k h4' (by omega)
 ·exact ((hm.mono (fun _ hk=>.inl hk)).setCell (p:=⟨nb,d,none⟩) (.inl (.inr (.inr (.inl rfl)))) _).trans h2 (fun i hi=>.inr hi)
theorem eW.readPost' {X:Nat->Prop}{w w':World}{bs bb:Nat}{nv vv:Value}{g:af}{next:List Int}(h:eW X w bs bb nv vv g next)(hs:Src w' bs)(hm:cR (fun i=>i=bs) w w'):aH X bs bb nv vv w w' nv vv g next/\w'.heap[bb]?=w.heap[bb]? :=
 ⟨h.readPost hs hm,hm.block bb h.Gj (by have:=h.lt;omega)⟩
theorem eW.nextPost' {X:Nat->Prop}{w w1 w2:World}{bs bb nb ki d:Nat}{vv:Value}{g:af}{next:List Int}{z:Int}(h:eW X w bs bb (.slice (some ⟨nb,0,none⟩) next.length ki) vv g next)(hs:Src w1 bs)(hm:cR (fun i=>i=bs) w w1)
  (h2:cR (fun k=>w.heap.size<=k) (w1.setCell ⟨nb,d,none⟩ (.int .i64 z)) w2):aH X bs bb (.slice (some ⟨nb,0,none⟩) next.length ki) vv w w2 (.slice (some ⟨nb,0,none⟩) next.length ki) vv g (next.set d z)/\w2.heap[bb]?=w.heap[bb]?:=by
 have hbl:=h.Gj;have hlt:=h.lt;have sy:bb<nb:=by have:=h.ownN.lt nb rfl;omega
 have hz:=hm.size;refine ⟨h.nextPost hs hm h2,?_⟩;rw [h2.block bb (by simp [World.setCell];omega) (by omega),bw _ _ _ _ (show bb≠nb by omega)];exact hm.block bb hbl (by omega)
def FC (X:Nat->Prop)(bs bb:Nat)(nv vv:Value)(g:af)(next:List Int)(d:Nat)(D:az)(m n:Int)(w:World)(e:Ending)(w':World):Prop :=
 (e=.returned (.tuple #[.agg #[.bool false,.string ⟨#[]⟩,.int .i64 0],.bool false])/\aH X bs bb nv vv w w' nv vv g next/\w'.heap[bb]?=w.heap[bb]?) \/
 ∃ s:Int,m<=s/\s+n<=D.Gc/\e=.returned (.tuple #[.agg #[.bool false,.string D.name,.int .i64 s],.bool true])/\aH X bs bb nv vv w w' nv vv g (next.set d (s+n))/\w'.heap[bb]?=w.heap[bb]?
theorem qR (X:Nat->Prop)(bs bb:Nat)(nv vv:Value)(g:af)(next:List Int)(w:World)(h:eW X w bs bb nv vv g next)(d:Nat)(D:az)(m n:Int)(hd:g.Gb[d]?=some D)(hn:next[d]?=some m)
  (hm0:0<=m) (hm1:m<=1000000) (hn0:0<=n) (hn1:n<=1000000) :
  Calls prog 92 #[.pointer (some ⟨bb,0,none⟩),.int .i64 d,.int .i64 n] w (FC X bs bb nv vv g next d D m n w):=by
 have HD:=aa hd;clear hd;have HN:=aa hn;clear hn;have hbl:=h.Gj;have hlt:=h.lt
 have c0:w.cell? ⟨bb,0,none⟩=some (.pointer (some ⟨bs,0,none⟩)):=by
  obtain ⟨_,_,_,_,_,c,_⟩:=h.at HD.o HN.o;exact c
 go_enter func92,ntmps92
 go_wp2_with fail
 refine (bY bs _ _ (by omega) (by omega) (h.below ((bj _ _).alloc (bk _) _)).src).mono ?_;rintro e w1 ⟨v,rfl,hv1,hv2,hs,oY⟩;have B1:=(h.below ((bj _ _).alloc (bk _) _)).read hs oY
 have hR:w1.heap[w.heap.size]?=some (.cells #[.bool false,.string ⟨#[]⟩,.int .i64 0] 60 (0,0)):=by
  rw [oY.block _ (by simp) (by omega),b9]
 obtain ⟨r0,r1,r2⟩:=JF (cr hR)
 have r3:=sr hR
 have hsz:w.heap.size<w1.heap.size:=aq hR;have HR:=aa hR;clear hR;have M1:cR (fun i=>i=bs) w w1:=((cR.of_below ((bj _ _).alloc (bk _) _)).trans oY (fun i hi=>.inl hi));obtain ⟨db,Kv,ir,nb,ki,c0,c7,rfl,c10,cn,cf,NP,cd3,l1,l2,l3,l4,l5,l6,l7,l8,l9,l10,l11⟩:=B1.at HD.o HN.o;clear oY hs;have hv3:0<=v / 2:=by omega
 have hv4:v / 2<=1:=by omega
 by_cases k1:D.Gc<m+n
 ·have k2:D.Gc<m+v / 2+n:=by omega
  go_wp2;go_quiet (fail);go_wp2;go_quiet (fail);go_wp2;refine eC (v:=.tuple #[.agg #[.bool false,.string ⟨#[]⟩,.int .i64 0],.bool false]) (by simp [results,Tryz.results92,go_sem,r0,r1,r2]) rfl (.inl ⟨rfl,?_⟩);refine h.readPost' (B1.src.keep fun i hi=>?_) ((((M1.drewN _).setCell (p:=⟨w.heap.size,0,none⟩) (.inr (bk _)) _).setCell (p:=⟨w.heap.size,1,none⟩) (.inr (bk _)) _).setCell (p:=⟨w.heap.size,2,none⟩) (.inr (bk _)) _);rw [bw _ _ _ _ (by simp;omega),bw _ _ _ _ (by simp;omega),bw _ _ _ _ (by simp;omega)];rfl
 ·have k2:¬ D.Gc<m+n:=k1
  by_cases k3:D.Gc<m+v / 2+n
  ·go_wp2
   go_quiet (fail);go_wp2;go_quiet (fail);go_wp2;generalize hW2:w1.drewN _=W2;have e2:∀ p,W2.cell? p=w1.cell? p:=fun p=>by rw [<- hW2];rfl
   have d7:=(e2 _).trans c7;have d10:=(e2 _).trans c10;have dn:=(e2 _).trans cn;have dd:=(e2 _).trans NP;have s2:W2.heap.size=w1.heap.size:=by rw [<- hW2];rfl
   have z1:db<W2.heap.size:=by omega
   have z2:nb<W2.heap.size:=by omega
   have z3:bb<W2.heap.size:=by omega
   have y7:=fun N cs t=>fu (N:=N) (cs:=cs) (t:=t) z3 d7;have y10:=fun N cs t=>fu (N:=N) (cs:=cs) (t:=t) z3 d10;have yn:=fun N cs t=>fu (N:=N) (cs:=cs) (t:=t) z2 dn;have yd:=fun N cs t=>fu (N:=N) (cs:=cs) (t:=t) z1 dd;have a0:∀ N (u v x:Value) (t:TypeId),((W2.drewN N).alloc (.cells #[u,v,x] t)).cell? ⟨W2.heap.size,0,none⟩=some u:=fun N u v x t=>aD rfl rfl;have a1:∀ N (u v x:Value) (t:TypeId),((W2.drewN N).alloc (.cells #[u,v,x] t)).cell? ⟨W2.heap.size,1,none⟩=some v:=fun N u v x t=>aD rfl rfl;have a2:∀ N (u v x:Value) (t:TypeId),((W2.drewN N).alloc (.cells #[u,v,x] t)).cell? ⟨W2.heap.size,2,none⟩=some x:=fun N u v x t=>aD rfl rfl;have a3:∀ N (i:Nat) (cs:Array Value) (t:TypeId),((W2.drewN N).alloc (.cells cs t)).frozen? ⟨W2.heap.size,i,none⟩=false:=fun N i cs t=>xP;have E2:=aa e2;clear e2;have S2:=aa s2;clear s2;have HW2:=aa hW2;clear hW2
   go_region
   clear y7 y10 yn yd;generalize hW:World.setCell (World.setCell (World.setCell (World.alloc (World.drewN W2 _) _) _ _) _ _) _ _=W6;have S:W2.heap.size=w1.heap.size:=S2.o
   have hk6:∀ k,k<w1.heap.size->W6.heap[k]?=w1.heap[k]?:=fun k hk=>by
    rw [<- hW,bw _ _ _ _ (by simp;omega),bw _ _ _ _ (by simp;omega),bw _ _ _ _ (by simp;omega),cj _ _ _ (by simp;omega),<- HW2.o];rfl
   have hn6:W6.heap[W2.heap.size]?=some (.cells #[.bool false,.string D.name,.int .i64 m] 60 (0,0)):=by
    rw [<- hW];exact block_setCell (cs:=#[_,_,_]) (i:=2) _ (block_setCell (cs:=#[_,_,_]) (i:=1) _ (block_setCell (cs:=#[_,_,_]) (i:=0) _ (b9 (W2.drewN _) _)))
   have q10:W6.cell? ⟨bb,10,none⟩=_:=(cd (w:=w1) (hk6 bb (by omega))).trans c10;have qn:W6.cell? ⟨nb,d,none⟩=_:=(cd (w:=w1) (hk6 nb (by omega))).trans cn;have qf:W6.frozen? ⟨nb,d,none⟩=_:=(rh (w:=w1) (hk6 nb (by omega))).trans cf;obtain ⟨n0,n1,n2⟩:=JF (cr hn6)
   have R6:=(hk6 w.heap.size (by omega)).trans HR.o;obtain ⟨p0,p1,p2⟩:=JF (cr R6)
   have p3:=sr R6
   have x1:nb≠W2.heap.size:=by omega
   have x2:nb≠w.heap.size:=by have:=h.ownN.lt nb rfl;omega
   have x3:w.heap.size≠W2.heap.size:=by omega
   have K6:=aa hk6;clear hk6;have N6:=aa hn6;clear hn6;have ZG:=aa R6;clear R6;have HW:=aa hW;clear hW;have HS:=aa S;clear S;clear a0 a1 a2 a3;go_wp2;refine eC (v:=.tuple #[.agg #[.bool false,.string D.name,.int .i64 m],.bool true]) (by simp [results,Tryz.results92,go_sem,p0,p1,p2]) rfl (.inr ⟨m,by omega,by omega,rfl,?_⟩)
   have M6:cR (fun i=>i=bs) w W6:=by
    rw [<- HW.o,<- HW2.o];have:=M1.size;exact (((((M1.drewN _).drewN _).alloc _).setCell (.inr (by simp;omega)) _).setCell (.inr (by simp;omega)) _).setCell (.inr (by simp;omega)) _
   refine h.nextPost' (w1:=W6) (B1.src.keep fun i hi=>K6.o i (by omega)) M6 ?_;exact ((((cR.refl (fun k=>w.heap.size<=k) (W6.setCell ⟨nb,d,none⟩ (.int .i64 (m+n)))).setCell (p:=⟨w.heap.size,0,none⟩) (.inl (bk _)) _).setCell (p:=⟨w.heap.size,1,none⟩) (.inl (bk _)) _).setCell (p:=⟨w.heap.size,2,none⟩) (.inl (bk _)) _)
  ·go_wp2
   go_quiet (fail);go_wp2;go_quiet (fail);go_wp2;generalize hW2:w1.drewN _=W2;have e2:∀ p,W2.cell? p=w1.cell? p:=fun p=>by rw [<- hW2];rfl
   have d7:=(e2 _).trans c7;have d10:=(e2 _).trans c10;have dn:=(e2 _).trans cn;have dd:=(e2 _).trans NP;have s2:W2.heap.size=w1.heap.size:=by rw [<- hW2];rfl
   have z1:db<W2.heap.size:=by omega
   have z2:nb<W2.heap.size:=by omega
   have z3:bb<W2.heap.size:=by omega
   have y7:=fun N cs t=>fu (N:=N) (cs:=cs) (t:=t) z3 d7;have y10:=fun N cs t=>fu (N:=N) (cs:=cs) (t:=t) z3 d10;have yn:=fun N cs t=>fu (N:=N) (cs:=cs) (t:=t) z2 dn;have yd:=fun N cs t=>fu (N:=N) (cs:=cs) (t:=t) z1 dd;have a0:∀ N (u v x:Value) (t:TypeId),((W2.drewN N).alloc (.cells #[u,v,x] t)).cell? ⟨W2.heap.size,0,none⟩=some u:=fun N u v x t=>aD rfl rfl;have a1:∀ N (u v x:Value) (t:TypeId),((W2.drewN N).alloc (.cells #[u,v,x] t)).cell? ⟨W2.heap.size,1,none⟩=some v:=fun N u v x t=>aD rfl rfl;have a2:∀ N (u v x:Value) (t:TypeId),((W2.drewN N).alloc (.cells #[u,v,x] t)).cell? ⟨W2.heap.size,2,none⟩=some x:=fun N u v x t=>aD rfl rfl;have a3:∀ N (i:Nat) (cs:Array Value) (t:TypeId),((W2.drewN N).alloc (.cells cs t)).frozen? ⟨W2.heap.size,i,none⟩=false:=fun N i cs t=>xP;have E2:=aa e2;clear e2;have S2:=aa s2;clear s2;have HW2:=aa hW2;clear hW2
   go_region
   clear y7 y10 yn yd;generalize hW:World.setCell (World.setCell (World.setCell (World.alloc (World.drewN W2 _) _) _ _) _ _) _ _=W6;have S:W2.heap.size=w1.heap.size:=S2.o
   have hk6:∀ k,k<w1.heap.size->W6.heap[k]?=w1.heap[k]?:=fun k hk=>by
    rw [<- hW,bw _ _ _ _ (by simp;omega),bw _ _ _ _ (by simp;omega),bw _ _ _ _ (by simp;omega),cj _ _ _ (by simp;omega),<- HW2.o];rfl
   have hn6:W6.heap[W2.heap.size]?=some (.cells #[.bool false,.string D.name,.int .i64 (m+v / 2)] 60 (0,0)):=by
    rw [<- hW];exact block_setCell (cs:=#[_,_,_]) (i:=2) _ (block_setCell (cs:=#[_,_,_]) (i:=1) _ (block_setCell (cs:=#[_,_,_]) (i:=0) _ (b9 (W2.drewN _) _)))
   have q10:W6.cell? ⟨bb,10,none⟩=_:=(cd (w:=w1) (hk6 bb (by omega))).trans c10;have qn:W6.cell? ⟨nb,d,none⟩=_:=(cd (w:=w1) (hk6 nb (by omega))).trans cn;have qf:W6.frozen? ⟨nb,d,none⟩=_:=(rh (w:=w1) (hk6 nb (by omega))).trans cf;obtain ⟨n0,n1,n2⟩:=JF (cr hn6)
   have R6:=(hk6 w.heap.size (by omega)).trans HR.o;obtain ⟨p0,p1,p2⟩:=JF (cr R6)
   have p3:=sr R6
   have x1:nb≠W2.heap.size:=by omega
   have x2:nb≠w.heap.size:=by have:=h.ownN.lt nb rfl;omega
   have x3:w.heap.size≠W2.heap.size:=by omega
   have K6:=aa hk6;clear hk6;have N6:=aa hn6;clear hn6;have ZG:=aa R6;clear R6;have HW:=aa hW;clear hW;have HS:=aa S;clear S;clear a0 a1 a2 a3;go_wp2;refine eC (v:=.tuple #[.agg #[.bool false,.string D.name,.int .i64 (m+v / 2)],.bool true]) (by simp [results,Tryz.results92,go_sem,p0,p1,p2]) rfl (.inr ⟨m+v / 2,by omega,by omega,rfl,?_⟩)
   have M6:cR (fun i=>i=bs) w W6:=by
    rw [<- HW.o,<- HW2.o];have:=M1.size;exact (((((M1.drewN _).drewN _).alloc _).setCell (.inr (by simp;omega)) _).setCell (.inr (by simp;omega)) _).setCell (.inr (by simp;omega)) _
   rw [show m+v / 2+n=m+(v / 2+n) from by omega];refine h.nextPost' (w1:=W6) (B1.src.keep fun i hi=>K6.o i (by omega)) M6 ?_;exact ((((cR.refl (fun k=>w.heap.size<=k) (W6.setCell ⟨nb,d,none⟩ (.int .i64 (m+(v / 2+n))))).setCell (p:=⟨w.heap.size,0,none⟩) (.inl (bk _)) _).setCell (p:=⟨w.heap.size,1,none⟩) (.inl (bk _)) _).setCell (p:=⟨w.heap.size,2,none⟩) (.inl (bk _)) _)
end Go.Proofs.YtjdfihglehfelaaGreatDoor
