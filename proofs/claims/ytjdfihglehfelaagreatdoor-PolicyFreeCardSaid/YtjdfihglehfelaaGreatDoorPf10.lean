/- Lemmas: MkQ, SpA, FlI, SpB. -/
import Derived.Test.YtjdfihglehfelaaGreatDoorPf09
import Derived.OrdersIn
import Derived.RangeFuncKeeps
set_option maxRecDepth 100000
set_option maxHeartbeats 32000000
set_option linter.all false
namespace Go.Proofs.YtjdfihglehfelaaGreatDoor
open Go.Proofs.Tryz
open Go.RowKit
def aV (start n kind:Int)(Ga:List aR)(done:Int):aB:=⟨start,n,kind,Ga,0,[],es,es,0,0,done⟩
def bg (l:List aB):Int:=(l.map (·.length)).sum
def iG (x:aB):List (ByteArray × Int × Int):=if x.kind=1\/x.kind=8 then x.Ga.map fun a=>(a.on,a.start,x.length) else []
inductive fB (l:List aB):List aB->Prop
 | nil:fB l l
 | void {l':List aB} {n kind:Int} (h:fB l l') (hn:1<=n/\n<=3) (hk:kind=9\/kind=10):fB l (l'++[aV (bg l') n kind [] 0])
 | lin {l':List aB} {n s:Int} {on:ByteArray} (h:fB l l') (hn:1<=n/\n<=3):fB l (l'++[aV (bg l') n 1 [⟨false,on,s⟩] 0])
 | move {l':List aB} {n s s' dn:Int} {on on':ByteArray} (h:fB l l') (hn:1<=n/\n<=3) (hd:0<=dn/\dn<=n):fB l (l'++[aV (bg l') n 8 [⟨false,on,s⟩,⟨false,on',s'⟩] dn])
theorem bF.ge0 {α:Type}{V:jx α}{sz B:Nat}{t:TypeId}{ok:Nat->Prop}{w:World}{v:Value}{l:List α}(h:bF V sz t B ok w v l){k:Nat}(e:v.ownBlock=some k):B<=k/\k<w.heap.size:=by
 obtain ⟨cs,ho,_⟩:=h;exact ho.lt k e
def eO (X:Nat->Prop)(Lv:Nat)(sv:Value):Nat->Prop:=fun k=>X k\/k=Lv\/k=Lv+1\/ownB (Lv+1+1) sv k
structure yy (X:Nat->Prop)(bs bb:Nat)(nv vv:Value)(g:af)(next:List Int)(w0:World)(Lv:Nat)(cs:Value->Array Value)(l0:List aB)(sv:Value)(Gf:List aB)(ps:List (ByteArray × Int × Int))(nx:List Int)(w:World):Prop where
 post:aH (eO X Lv sv) bs bb nv vv w0 w nv vv g nx
 bv:w.heap[Lv]?=some (.cells (cs sv) 55 (0,0))
 br:∃ zs:Array Value,zs.size=6/\w.heap[Lv+1]?=some (.cells zs 55 (0,0))
 st:P8 bC 11 79 (Lv+1+1) (okB (eO X Lv sv) bb nv vv) w sv Gf
 more:fB l0 Gf
 took:fZ g.Gb next ps nx
 sub:List.Sublist ((Gf.drop l0.length).flatMap iG) ps
 len:∀ x∈Gf,0<=x.length/\x.length<=1000
 lv:w0.heap.size<=Lv
 hB:Lv+1+1<=w.heap.size
section
variable {X:Nat->Prop}{bs bb:Nat}{nv vv:Value}{g:af}{next:List Int}{w0 w w':World}{Lv:Nat}{cs:Value->Array Value}{l0 Gf:List aB}{sv:Value}{ps ps':List (ByteArray × Int × Int)}{nx NT:List Int}
theorem yy.step (h:yy X bs bb nv vv g next w0 Lv cs l0 sv Gf ps nx w)(q:aH (eO X Lv sv) bs bb nv vv w w' nv vv g NT)(ht:fZ g.Gb nx ps' NT):yy X bs bb nv vv g next w0 Lv cs l0 sv Gf (ps++ps') NT w':=by
 obtain ⟨zs,hz,hr⟩:=h.br;exact ⟨h.post.trans q,(q.loc h.post.bld (.inr (.inl rfl))).trans h.bv,⟨zs,hz,(q.loc h.post.bld (.inr (.inr (.inl rfl)))).trans hr⟩,h.st.moves bC.moves ⟨q.mod.size,fun b hb ho=>⟨ho,q.loc' h.post.bld ho hb⟩⟩ (fun k hk=>q.loc h.post.bld (.inr (.inr (.inr hk)))),h.more,h.took.trans ht,h.sub.trans (List.sublist_append_left _ _),h.len,h.lv,cA h.hB q.mod.size⟩
theorem yy.below (h:yy X bs bb nv vv g next w0 Lv cs l0 sv Gf ps nx w)(hb:Below w.heap.size w w'):yy X bs bb nv vv g next w0 Lv cs l0 sv Gf ps nx w':=by
 have:=h.step ((aH.refl h.post.bld).after hb) (.nil _);simpa using this
theorem yy.read (h:yy X bs bb nv vv g next w0 Lv cs l0 sv Gf ps nx w)(hs:Src w' bs)(hm:cR (fun i=>i=bs) w w'):yy X bs bb nv vv g next w0 Lv cs l0 sv Gf ps nx w':=by
 have:=h.step (h.post.bld.readPost hs hm) (.nil _);simpa using this
theorem yy.fresh (h:yy X bs bb nv vv g next w0 Lv cs l0 sv Gf ps nx w)(o:Obj):yy (fD X w.heap.size) bs bb nv vv g next w0 Lv cs l0 sv Gf ps nx (w.alloc o):=by
 have hb:=ae w o;have hlv:Lv<w.heap.size:=by have:=h.hB;omega
 obtain ⟨zs,hz,hr⟩:=h.br;refine ⟨h.post.fresh hb (fun k hk=>?_),(hb.block Lv hlv).trans h.bv,⟨zs,hz,(hb.block (Lv+1) (by have:=h.hB;omega)).trans hr⟩,h.st.moves bC.moves ⟨hb.size,fun b hb' ho=>⟨⟨ho.1,ho.2.1,ho.2.2.1,fun q=>?_⟩,hb.block b hb'⟩⟩ (fun k hk=>hb.block k (h.post.bld.xlt k (.inr (.inr (.inr hk)))).2),h.more,h.took,h.sub,h.len,h.lv,cA h.hB hb.size⟩
 ·rcases hk with (q | rfl) | q
  ·exact .inl (.inl q)
  ·exact .inr ⟨bk _,by simp⟩
  ·exact .inl (.inr q)
 ·rcases q with (q | rfl) | q
  ·exact ho.2.2.2 (.inl q)
  ·omega
  ·exact ho.2.2.2 (.inr q)
theorem yy.drop {L:Nat}(h:yy (fD X L) bs bb nv vv g next w0 Lv cs l0 sv Gf ps nx w):yy X bs bb nv vv g next w0 Lv cs l0 sv Gf ps nx w:=by
 have hY:∀ k,eO X Lv sv k->eO (fD X L) Lv sv k:=fun k q=>q.imp (fun q=>.inl q) id;exact ⟨h.post.fewer hY,h.bv,h.br,h.st.moves bC.moves ⟨bk _,fun b _ ho=>⟨⟨ho.1,ho.2.1,ho.2.2.1,fun q=>ho.2.2.2 (hY b q)⟩,rfl⟩⟩ (fun _ _=>rfl),h.more,h.took,h.sub,h.len,h.lv,h.hB⟩
theorem yy.put {L:Nat}(h:yy (fD X L) bs bb nv vv g next w0 Lv cs l0 sv Gf ps nx w)(hL:Lv+1+1<=L)(IZ:sv.ownBlock≠some L)(i:Nat)(u:Value):yy (fD X L) bs bb nv vv g next w0 Lv cs l0 sv Gf ps nx (w.setCell ⟨L,i,none⟩ u):=by
 have kk:∀ k,k≠L->(w.setCell ⟨L,i,none⟩ u).heap[k]?=w.heap[k]?:=fun k e=>bw _ _ _ _ e;have hz:(w.setCell ⟨L,i,none⟩ u).heap.size=w.heap.size:=by simp [World.setCell]
 obtain ⟨zs,hzs,hr⟩:=h.br;exact ⟨h.post.put L i u (.inl (.inr rfl)) (by have:=h.lv;omega),(kk Lv (by omega)).trans h.bv,⟨zs,hzs,(kk (Lv+1) (by omega)).trans hr⟩,h.st.moves bC.moves ⟨by omega,fun b _ ho=>⟨ho,kk b (fun e=>ho.2.2.2 (.inl (.inr e)))⟩⟩ (fun k hk=>kk k (fun e=>IZ (e ▸ hk.1))),h.more,h.took,h.sub,h.len,h.lv,by rw [hz];exact h.hB⟩
theorem yy.svLt (h:yy X bs bb nv vv g next w0 Lv cs l0 sv Gf ps nx w){k:Nat}(e:sv.ownBlock=some k):k<w.heap.size:=by
 rcases h.st with ⟨⟨b,olds,rfl,hb,_⟩,_⟩ | ho
 ·obtain rfl:b=k:=by injection e
  exact hb
 ·exact (ho.ge0 e).2
theorem yy.push {w1 w2:World}{x:aB}{gb cap:Nat}(h:yy X bs bb nv vv g next w0 Lv cs l0 sv Gf ps nx w)(hb:Below w.heap.size w w1)
  (hp:Ad bC 11 79 (Lv+1+1) (fun b=>okB (eO X Lv sv) bb nv vv b/\b<w.heap.size) w1 sv Gf x gb cap w2) (hm:fB l0 (Gf++[x])) (hs:List.Sublist (((Gf++[x]).drop l0.length).flatMap iG) ps) (hx:0<=x.length/\x.length<=1000)
  (hcs:∀ u v,(cs u).setIfInBounds 5 v=cs v):yy X bs bb nv vv g next w0 Lv cs l0 (.slice (some ⟨gb,0,none⟩) (Gf.length+1) cap) (Gf++[x]) ps nx (w2.setCell ⟨Lv,5,none⟩ (.slice (some ⟨gb,0,none⟩) (Gf.length+1) cap))/\w2.heap[Lv]?=some (.cells (cs sv) 55 (0,0)):=by
 have h1:=h.below hb;have hlv:=h.lv;have hB:=h.hB;have hz:=hb.size;have hz2:=hp.mod.size;have kk:∀ k,k≠Lv->(w2.setCell ⟨Lv,5,none⟩ (.slice (some ⟨gb,0,none⟩) (Gf.length+1) cap)).heap[k]?=w2.heap[k]?:=fun k e=>bw _ _ _ _ e;have hzz:(w2.setCell ⟨Lv,5,none⟩ (.slice (some ⟨gb,0,none⟩) (Gf.length+1) cap)).heap.size=w2.heap.size:=by simp [World.setCell]
 have Yf:w2.heap[Lv]?=some (.cells (cs sv) 55 (0,0)):=(hp.mod.block Lv (by omega) (fun q=>by have:=q.2;omega)).trans h1.bv;have hg:=hp.own.ge0 (k:=gb) rfl
 have hY:∀ k,eO X Lv (.slice (some ⟨gb,0,none⟩) (Gf.length+1) cap) k->eO X Lv sv k\/(w1.heap.size<=k/\k<w2.heap.size):=by
  rintro k (q | q | q | q)
  ·exact .inl (.inl q)
  ·exact .inl (.inr (.inl q))
  ·exact .inl (.inr (.inr (.inl q)))
  ·obtain rfl:gb=k:=by injection q.1
   rcases hp.at' with q | q
   ·exact .inl (.inr (.inr (.inr q)))
   ·exact .inr ⟨by omega,q.2⟩
 refine ⟨⟨h1.post.move (((hp.mod.mono (G:=fun k=>eO X Lv sv k/\w0.heap.size<=k) (fun k q=>⟨.inr (.inr (.inr q)),by have:=q.2;omega⟩))).setCell (p:=⟨Lv,5,none⟩) (.inl ⟨.inr (.inl rfl),hlv⟩) _) (fun k hk=>(hY k hk).imp id (fun q=>by rw [hzz];exact q)),?_,?_,.inr ?_,hm,h.took,hs,fun y hy=>?_,hlv,by rw [hzz];omega⟩,Yf⟩
 ·rw [<- hcs sv]
  exact block_setCell (i:=5) _ Yf
 ·obtain ⟨zs,hzs,hr⟩:=h1.br
  exact ⟨zs,hzs,(kk (Lv+1) (by omega)).trans ((hp.mod.block (Lv+1) (by omega) (fun q=>by have:=q.2;omega)).trans hr)⟩
 ·obtain ⟨cl,ho,hf⟩:=hp.own
  refine ⟨cl,aC ho fun k e=>kk k (by have:=(ho.lt k e).1;omega),Flat.moves bC.moves ⟨by omega,fun b _ ho=>⟨⟨ho.1.1,ho.1.2.1,ho.1.2.2.1,fun q=>?_⟩,kk b (fun e=>ho.1.2.2.2 (.inr (.inl e)))⟩⟩ _ _ hf⟩
  rcases hY b q with q | q
  ·exact ho.1.2.2.2 q
  ·have:=ho.2;omega
 ·rcases List.mem_append.1 hy with q | q
  ·exact h.len y q
  ·simp only [dr,cY,dg] at q
   rw [q];exact hx
end
def FT (X:Nat->Prop)(bs bb:Nat)(nv vv:Value)(g:af)(next:List Int)(name:ByteArray)(id:Int)(hidden ro:Bool)(tv:Value)(x0:aB)(w:World)(e:Ending)(w':World):Prop :=
 ∃ (sv:Value) (Gf:List aB) (ps:List (ByteArray × Int × Int)) (next':List Int),e=.returned (.agg #[.string name,.int .u64 id,.bool hidden,.bool ro,tv,sv])/\fB [x0] Gf/\Gf.length<=3/\fZ g.Gb next ps next'/\List.Sublist ((Gf.drop 1).flatMap iG) ps /\
  aH X bs bb nv vv w w' nv vv g next'/\ck bC 11 (okB X bb nv vv) w' [sv] Gf
theorem kW {P:Program}{ops:Array Oper}{Q:Exit->Act->World->Prop}{id:Nat}{a:Act}{w:World}(S:World->Prop)(N:Nat->Bool)(hm:P.follows .mixedOrders=true)(hS:S w.drew)
  (h:S w.drew->bG P .any ops Q S N ops.size (Array.replicate ops.size false) a w.drew):(Code.region id ops true).wp P Q a w :=
 wp_region_any hm (mF _ _ _ _ (h hS))
theorem eB {P:Program}{Q:Exit->Act->World->Prop}{md:Region.Mode}{S:World->Prop}{N:Nat->Bool}{l:List Oper}{fuel:Nat}{listed:Array Bool}{a:Act}{w:World}(m:Nat)(hN:∀ t,m<=t->N t=false)(hB:Region.seqB md l.toArray (l.toArray.size - m) m listed=true)(hf:fuel=(l.drop m).length)(h:wpList P l.toArray Q (l.drop m) a w):bG P md l.toArray Q S N fuel listed a w:=by
 rw [hf];exact gM (l.drop m) m listed a w hN (fun j=>by simp [pk]) (by simpa using hB) h
theorem ja {P:Program}{ops:Array Oper}{Q:Exit->Act->World->Prop}{md:Region.Mode}{S:World->Prop}{N:Nat->Bool}{i j:Nat}{o o':Oper}{fuel:Nat}{listed:Array Bool}{a:Act}{w:World}(hi:ops[i]?=some o)(hg:o.guard=none)(hj:ops[j]?=some o')(hg':o'.guard=none)(hr:Region.ready md ops listed=[i,j])
  (h1:∀ K:Act->World->Prop,Hid (∀ a' w',(N i=true->S w')->bG P md ops Q S N fuel (listed.setIfInBounds i true) a' w'->K a' w')->o.wp P a w K Q)
  (h2:∀ K:Act->World->Prop,Hid (∀ a' w',(N j=true->S w')->bG P md ops Q S N fuel (listed.setIfInBounds j true) a' w'->K a' w')->o'.wp P a w K Q):bG P md ops Q S N (fuel+1) listed a w:=by
 refine ⟨fun h0=>(by rw [hr] at h0;cases h0),fun k hk=>?_⟩
 rw [hr] at hk;simp only [dr,cY,dg] at hk;rcases hk with rfl | rfl
 ·have hw:Region.wanted o (yielded ops a.tmps)=true:=by simp [Region.wanted,hg]
  unfold wpOp;simp only [hi,hw,ej];exact .inl (h1 _ (aa fun a' w' q1 q2=>⟨q1,q2⟩))
 ·have hw:Region.wanted o' (yielded ops a.tmps)=true:=by simp [Region.wanted,hg']
  unfold wpOp;simp only [hj,hw,ej];exact .inl (h2 _ (aa fun a' w' q1 q2=>⟨q1,q2⟩))
theorem bS {P:Program}{ops:Array Oper}{Q:Exit->Act->World->Prop}{md:Region.Mode}{S:World->Prop}{N:Nat->Bool}{i:Nat}{o:Oper}{fuel:Nat}{listed:Array Bool}{a:Act}{w:World}(hi:ops[i]?=some o)(hg:o.guard=none)(hr:Region.ready md ops listed=[i])
  (h:∀ K:Act->World->Prop,Hid (∀ a' w',(N i=true->S w')->bG P md ops Q S N fuel (listed.setIfInBounds i true) a' w'->K a' w')->o.wp P a w K Q):bG P md ops Q S N (fuel+1) listed a w:=by
 refine ⟨fun h0=>(by rw [hr] at h0;cases h0),fun k hk=>?_⟩
 rw [hr] at hk;obtain rfl:k=i:=by simpa using hk
 have hw:Region.wanted o (yielded ops a.tmps)=true:=by simp [Region.wanted,hg]
 unfold wpOp;simp only [hi,hw,ej];exact .inl (h _ (aa fun a' w' q1 q2=>⟨q1,q2⟩))
theorem mh {P:Program}{ops:Array Oper}{Q:Exit->Act->World->Prop}{md:Region.Mode}{S:World->Prop}{N:Nat->Bool}{i j:Nat}{o o':Oper}{fuel:Nat}{listed:Array Bool}{a:Act}{w:World}(hi:ops[i]?=some o)(hg:o.guard=none)(hj:ops[j]?=some o')(hg':o'.guard=none)(hr:Region.ready md ops listed=[i,j])
  (h1:∀ K:Act->World->Prop,Hid (∀ a' w',S w'->bG P md ops Q S N fuel (listed.setIfInBounds i true) a' w'->K a' w')->o.wp P a w K Q)
  (h2:∀ K:Act->World->Prop,Hid (∀ a' w',S w'->bG P md ops Q S N fuel (listed.setIfInBounds j true) a' w'->K a' w')->o'.wp P a w K Q):bG P md ops Q S N (fuel+1) listed a w:=by
 refine ⟨fun h0=>(by rw [hr] at h0;cases h0),fun k hk=>?_⟩
 rw [hr] at hk;simp only [dr,cY,dg] at hk;rcases hk with rfl | rfl
 ·have hw:Region.wanted o (yielded ops a.tmps)=true:=by simp [Region.wanted,hg]
  unfold wpOp;simp only [hi,hw,ej];exact .inl (h1 _ (aa fun a' w' q1 q2=>⟨fun _=>q1,q2⟩))
 ·have hw:Region.wanted o' (yielded ops a.tmps)=true:=by simp [Region.wanted,hg']
  unfold wpOp;simp only [hj,hw,ej];exact .inl (h2 _ (aa fun a' w' q1 q2=>⟨fun _=>q1,q2⟩))
structure fw (X:Nat->Prop)(bs bb:Nat)(nv vv:Value)(g:af)(next:List Int)(w0:World)(Lv:Nat)(cs:Value->Array Value)(l0:List aB)(sv:Value)(Gf:List aB)(ps:List (ByteArray × Int × Int))(nx:List Int)(L:Nat)(xs:Array Value)(w:World):Prop where
 m:yy X bs bb nv vv g next w0 Lv cs l0 sv Gf ps nx w
 lx:w.heap[L]?=some (.cells xs 79 (0,0))
 xl:X L
section
variable {X:Nat->Prop}{bs bb:Nat}{nv vv:Value}{g:af}{next:List Int}{w0 w w':World}{Lv L A:Nat}{cs:Value->Array Value}{l0 Gf:List aB}{sv:Value}{ps ps':List (ByteArray × Int × Int)}{nx NT:List Int}{xs:Array Value}
theorem fw.step (h:fw X bs bb nv vv g next w0 Lv cs l0 sv Gf ps nx L xs w)(q:aH (eO X Lv sv) bs bb nv vv w w' nv vv g NT)(ht:fZ g.Gb nx ps' NT):fw X bs bb nv vv g next w0 Lv cs l0 sv Gf (ps++ps') NT L xs w' :=
 ⟨h.m.step q ht,(q.loc h.m.post.bld (.inl h.xl)).trans h.lx,h.xl⟩
theorem fw.below (h:fw X bs bb nv vv g next w0 Lv cs l0 sv Gf ps nx L xs w)(hb:Below w.heap.size w w'):fw X bs bb nv vv g next w0 Lv cs l0 sv Gf ps nx L xs w':=⟨h.m.below hb,(hb.block L (aq h.lx)).trans h.lx,h.xl⟩
theorem fw.read (h:fw X bs bb nv vv g next w0 Lv cs l0 sv Gf ps nx L xs w)(hs:Src w' bs)(hm:cR (fun i=>i=bs) w w'):fw X bs bb nv vv g next w0 Lv cs l0 sv Gf ps nx L xs w' :=
 ⟨h.m.read hs hm,((h.m.post.bld.readPost hs hm).loc h.m.post.bld (.inl h.xl)).trans h.lx,h.xl⟩
theorem fw.fresh (h:fw X bs bb nv vv g next w0 Lv cs l0 sv Gf ps nx L xs w)(o:Obj):fw (fD X w.heap.size) bs bb nv vv g next w0 Lv cs l0 sv Gf ps nx L xs (w.alloc o) :=
 ⟨h.m.fresh o,(cj _ _ _ (aq h.lx)).trans h.lx,.inl h.xl⟩
theorem fw.put (h:fw (fD X A) bs bb nv vv g next w0 Lv cs l0 sv Gf ps nx L xs w)(hA:Lv+1+1<=A)(IZ:sv.ownBlock≠some A)(hne:L≠A)(i:Nat)(u:Value):fw (fD X A) bs bb nv vv g next w0 Lv cs l0 sv Gf ps nx L xs (w.setCell ⟨A,i,none⟩ u) :=
 ⟨h.m.put hA IZ i u,(bw _ _ _ _ hne).trans h.lx,h.xl⟩
end
theorem mo (w:World)(t:TypeId)(l:List Int):ig (w.alloc (.cells (l.map (Value.int .i64)).toArray t)) w.heap.size 0 l:=fun i v hv=>aD rfl (by simp [hv])
theorem om (l:List aB)(k:Nat)(x:aB)(h:l[k]?=some x):bg (l.take (k+1))=bg (l.take k)+x.length:=by
 rw [take_snoc' l k x h];simp [bg]
theorem Bb (l:List aB)(h:∀ x∈l,0<=x.length/\x.length<=1000):0<=bg l/\bg l<=1000*l.length:=by
 induction l with
 | nil=>simp [bg]
 | cons x l ih =>
  have h1:=h x (cG ..);have h2:=ih fun y hy=>h y (kn _ hy);simp only [bg,iu,List.sum_cons,cS] at h2 ⊢;omega
theorem fB.len {l l':List aB}(h:fB l l'):l.length<=l'.length:=by
 induction h with
 | nil=>exact bk _
 | void _ _ _ ih=>simp;omega
 | lin _ _ ih=>simp;omega
 | move _ _ _ ih=>simp;omega
theorem fB.sub {l0 Gf:List aB}{ps ps1:List (ByteArray × Int × Int)}{x:aB}(h:fB l0 Gf)(hs:List.Sublist ((Gf.drop l0.length).flatMap iG) ps)(hx:iG x=ps1):List.Sublist (((Gf++[x]).drop l0.length).flatMap iG) (ps++ps1):=by
 rw [List.drop_append_of_le_length h.len,xt];refine hs.append ?_;simp [hx]
def kX (n:Nat):Code->Option Code
 | .region m o d=>bif Nat.beq m n then some (.region m o d) else none
 | .seq a b=>match kX n a with
  | some c=>some c
  | none=>kX n b
 | .block _ c=>kX n c
 | .loop c=>kX n c
 | .scope c=>kX n c
 | .cond _ a b=>match kX n a with
  | some c=>some c
  | none=>kX n b
 | _=>none
noncomputable def p9 (n:Nat):Code:=((Tryz.f44.body.bind (kX n)).getD .skip)
section
variable {X:Nat->Prop}{bs bb:Nat}{nv vv:Value}{g:af}{next:List Int}{w0 w w':World}{Lv L A:Nat}{cs:Value->Array Value}{l0 Gf:List aB}{sv:Value}{ps ps':List (ByteArray × Int × Int)}{nx NT:List Int}{xs:Array Value}
theorem fw.drop (h:fw (fD X A) bs bb nv vv g next w0 Lv cs l0 sv Gf ps nx L xs w)(hX:X L):fw X bs bb nv vv g next w0 Lv cs l0 sv Gf ps nx L xs w:=⟨h.m.drop,h.lx,hX⟩
theorem yy.putX (h:yy X bs bb nv vv g next w0 Lv cs l0 sv Gf ps nx w)(hX:X L)(hL:Lv+1+1<=L)(IZ:sv.ownBlock≠some L)(i:Nat)(u:Value):yy X bs bb nv vv g next w0 Lv cs l0 sv Gf ps nx (w.setCell ⟨L,i,none⟩ u):=by
 have kk:∀ k,k≠L->(w.setCell ⟨L,i,none⟩ u).heap[k]?=w.heap[k]?:=fun k e=>bw _ _ _ _ e;have hz:(w.setCell ⟨L,i,none⟩ u).heap.size=w.heap.size:=by simp [World.setCell]
 obtain ⟨zs,hzs,hr⟩:=h.br;exact ⟨h.post.put L i u (.inl hX) (by have:=h.lv;omega),(kk Lv (by omega)).trans h.bv,⟨zs,hzs,(kk (Lv+1) (by omega)).trans hr⟩,h.st.moves bC.moves ⟨by omega,fun b _ ho=>⟨ho,kk b (fun e=>ho.2.2.2 (.inl (e ▸ hX)))⟩⟩ (fun k hk=>kk k (fun e=>IZ (e ▸ hk.1))),h.more,h.took,h.sub,h.len,h.lv,by rw [hz];exact h.hB⟩
theorem fw.lit (h:fw X bs bb nv vv g next w0 Lv cs l0 sv Gf ps nx L xs w)(hL:Lv+1+1<=L)(IZ:sv.ownBlock≠some L)(us:Array Value) :
  fw (fD X w.heap.size) bs bb nv vv g next w0 Lv cs l0 sv Gf ps nx L (xs.setIfInBounds 3 (.slice (some ⟨w.heap.size,0,none⟩) 1 1)) ((w.alloc (.cells us 60)).setCell ⟨L,3,none⟩ (.slice (some ⟨w.heap.size,0,none⟩) 1 1)) /\
  ((w.alloc (.cells us 60)).setCell ⟨L,3,none⟩ (.slice (some ⟨w.heap.size,0,none⟩) 1 1)).heap[w.heap.size]?=some (.cells us 60 (0,0))/\okB (eO X Lv sv) bb nv vv w.heap.size:=by
 have h1:=h.fresh (.cells us 60);have hlt:=aq h.lx;exact ⟨⟨h1.m.putX (.inl h.xl) hL IZ 3 _,block_setCell (i:=3) _ h1.lx,h1.xl⟩,(bw _ _ _ _ (show w.heap.size≠L by omega)).trans (b9 w _),h.m.post.bld.okNew (bk _)⟩
theorem fw.area (h:fw X bs bb nv vv g next w0 Lv cs l0 sv Gf ps nx L xs w)(hk:Ld g next)(d:Nat)(hd:d<g.Gb.length)(n:Int)(hn0:1<=n)(hn1:n<=1000) :
  Calls prog 92 #[.pointer (some ⟨bb,0,none⟩),.int .i64 d,.int .i64 n] w fun e w'=>∃ (on:ByteArray) (s:Int) (ok:Bool) (ps1:List (ByteArray × Int × Int)) (nx1:List Int),e=.returned (.tuple #[.agg #[.bool false,.string on,.int .i64 s],.bool ok])/\(ok=true->ps1=[(on,s,n)]) /\
   fw X bs bb nv vv g next w0 Lv cs l0 sv Gf (ps++ps1) nx1 L xs w'/\w'.heap[bb]?=w.heap[bb]?/\(∀ k,X k->w'.heap[k]?=w.heap[k]?):=by
 have dk:=h.m.took.ok hk.dk;obtain ⟨D,hD⟩:=aj g.Gb d hd;obtain ⟨m,hm⟩:=aj nx d (by rw [dk.len];exact hd);have QK:=dk.nx d m hm;refine (qR (eO X Lv sv) bs bb nv vv g nx _ h.m.post.bld d D m n hD hm QK.1 (by omega) (by omega) (by omega)).mono ?_;rintro e w' (⟨rfl,Q,hb⟩ | ⟨s,hs1,hs2,rfl,Q,hb⟩)
 ·exact ⟨es,0,false,[],nx,rfl,(fun e=>by cases e),h.step Q (.nil _),hb,fun k q=>Q.loc h.m.post.bld (.inl q)⟩
 ·exact ⟨D.name,s,true,[(D.name,s,n)],_,rfl,(fun _=>rfl),h.step Q (.snoc (.nil _) hD hm hs1 hs2 hn0),hb,fun k q=>Q.loc h.m.post.bld (.inl q)⟩
end
theorem oH {w:World}{A:Nat}{t:TypeId}{z0 z1 z2:Value}(h:w.heap[A]?=some (.cells #[z0,z1,z2] t (0,0)))(v0 v1 v2:Value):(((w.setCell ⟨A,0,none⟩ v0).setCell ⟨A,1,none⟩ v1).setCell ⟨A,2,none⟩ v2).heap[A]?=some (.cells #[v0,v1,v2] t (0,0)) :=
 block_setCell (i:=2) _ (block_setCell (i:=1) _ (block_setCell (i:=0) _ h))
def iB (kind len:Int)(Ga:Nat):Int:=if kind=2/\0<Ga then len / Ga else len
theorem ji (st len kd ch dev mode dn:Int)(ap sp:Option Addr)(al ac sl sc:Nat)(log pool:ByteArray)(w:World)(h0:0<=len)(h1:len<=9223372036854775807)(ha:al<=1000000) :
  Calls prog 144 #[.agg #[.int .i64 st,.int .i64 len,.int .i64 kd,.slice ap al ac,.int .i64 ch,.slice sp sl sc,.string log,.string pool,.int .i64 dev,.int .i64 mode,.int .i64 dn]] w fun e w'=>e=.returned (.int .i64 (iB kd len al))/\Below w.heap.size w w':=by
 have hb:=ae w (.cells #[.int .i64 st,.int .i64 len,.int .i64 kd,.slice ap al ac,.int .i64 ch,.slice sp sl sc,.string log,.string pool,.int .i64 dev,.int .i64 mode,.int .i64 dn] 79);have HB:=aa hb;clear hb;go_enter func144,ntmps144
 by_cases hk:kd=2
 ·subst hk
  by_cases hz:al=0
  ·subst hz
   go_wp2;go_ret;exact ⟨by simp [iB],HB.o⟩
  ·have hd:decide ((0:Int)<(al:Int))=true:=by simp;omega
   have hn:¬ (al:Int)=0:=by omega
   have hn1:((al:Int) == 0)=false:=by simpa using hz
   have hq0:0<=len / (al:Int):=lz h0 (by omega);have hq1:len / (al:Int)<=len:=mS _ h0;have hq2:len.tdiv (al:Int)=len / (al:Int):=CC h0;have hq3:IntKind.i64.wrap (len / (al:Int))=len / (al:Int):=dy _ (by omega);go_wp2;go_ret;exact ⟨by simp [iB,show 0<al by omega],HB.o⟩
 ·have hk1:(kd == 2)=false:=by simpa using hk
  go_wp2;go_ret;exact ⟨by simp [iB,hk],HB.o⟩
section
variable {n:Nat}{P:Program}{ops:Array Oper}{Q:Exit->Act->World->Prop}{md:Region.Mode}{S:World->Prop}{m:Nat}{N:Nat->Bool}
theorem BV {j:Nat}{oi oj:Oper}{v:Value}(hj:ops[j]?=some oj)(hap:oi.apart ops oj=true)(Z7:∀ cs b,oi.op≠.select cs b)(hsj:∀ cs b,oj.op≠.select cs b)
  (hQ:∀ c a w,Q (.panic c) (a.put oi.dst v) w->Q (.panic c) a w) {K:Act->World->Prop} {a:Act} {w:World} (hy:YieldsIf P ops S oi v a) (h:wpOpIn Fence.wide n P ops Q j K (a.put oi.dst v) w) :
  wpOpIn Fence.wide n P ops Q j (fun a' w'=>YieldsIf P ops S oi v a'/\K (a'.put oi.dst v) w') a w:=by
 obtain ⟨h1,h2,h3⟩:=Oper.apart_spec hap;have keep:∀ (a:Act),YieldsIf P ops S oi v a->∀ u,YieldsIf P ops S oi v (a.put oj.dst u):=fun a hy u=>hy.of_same (execOp_put oi Z7 a oj.dst u h3) (wanted_put oi a oj.dst u h3);have next:∀ u w',K ((a.put oi.dst v).put oj.dst u) w'->YieldsIf P ops S oi v (a.put oj.dst u)/\K ((a.put oj.dst u).put oi.dst v) w':=fun u w' q=>⟨keep a hy u,by rw [<- Act.put_comm a v u h2];exact q⟩;unfold wpOpIn at *;simp only [hj] at *;rw [wanted_put oj a oi.dst v h1] at h
 by_cases hw:Region.wanted oj (yielded ops a.tmps)=true
 ·rw [aw hw] at h ⊢
  refine ⟨fun _ _=>trivial,?_⟩;have h:=h.2;rw [tI,ub,execOp_put oj hsj a oi.dst v h1] at h;rw [tI,ub];generalize (execOp a.eval oj).run P w=r at *
  match r with
  | .ok (.value u) w'=>exact next u w' h
  | .ok .skip w'=>exact next undef w' h
  | .ok (.defer d) w' =>
   refine ⟨keep { a with defers:=d :: a.defers } (hy.of_same rfl rfl) _,?_⟩
   rw [<- Act.put_comm _ v undef h2,<- Act.put_defers];exact h
  | .ok (.enter f args) w'=>exact ⟨h.1,CallsIn.mono h.2 fun e w'' he=>by
    cases e with
    | returned u=>exact next u w'' he
    | panicked c=>exact hQ _ _ _ he
    | outgrown=>exact he⟩
  | .ok (.row row args) w'=>exact ⟨h.1,RowsIn.mono h.2 fun u w'' he=>next u w'' he⟩
  | .ok (.round l f tmps assign body) w'=>exact ⟨h.1,RoundIn.mono h.2 fun e w'' he=>by
    cases e with
    | returned u=>exact next u w'' he
    | panicked c=>exact hQ _ _ _ he
    | outgrown=>exact he⟩
  | .halt (.panic u) w'=>exact hQ _ _ _ h
 ·rw [bh hw] at h ⊢
  exact ⟨fun _ _=>trivial,next undef w h.2⟩
theorem qU {i:Nat}{o:Oper}{v:Value}{a:Act}(hi:ops[i]?=some o)(hy:YieldsIf P ops S o v a){K:Act->World->Prop}{w:World}(hS:S w)(h:K (a.put o.dst v) w):wpOpIn Fence.wide n P ops Q i K a w:=by
 unfold wpOpIn;simp only [hi];rcases hy with ⟨hw,hv⟩ | ⟨hw,rfl⟩
 ·rw [aw hw]
  refine ⟨fun _ _=>trivial,?_⟩;rw [tI,ub,hv w hS];exact h
 ·rw [bh (by rw [hw];exact Bool.false_ne_true)]
  exact ⟨fun _ _=>trivial,h⟩
def jm (n:Nat)(P:Program)(md:Region.Mode)(ops:Array Oper)(Q:Exit->Act->World->Prop)(S:World->Prop)(N:Nat->Bool):Nat->Array Bool->Act->World->Prop
 | 0,listed,a,w=>Region.ready md ops listed=[]/\Q .normal a w
 | fuel+1,listed,a,w=>(Region.ready md ops listed=[]->Q .normal a w)/\∀ i∈Region.ready md ops listed,wpOpIn Fence.wide n P ops Q i (fun a' w'=>(N i=true->S w')/\jm n P md ops Q S N fuel (listed.setIfInBounds i true) a' w') a w
theorem ng:∀ (fuel:Nat) (listed:Array Bool) (a:Act) (w:World),jm n P md ops Q S N fuel listed a w->wpAnyIn Fence.wide n P md ops Q fuel listed a w
 | 0,_,_,_,h=>h
 | fuel+1,_,_,_,h=>⟨h.1,fun i hi=>wpOpIn_mono (fun a' w' h'=>ng fuel _ a' w' h'.2) (h.2 i hi)⟩
theorem wz {id:Nat}{a:Act}{w:World}(n:Nat)(S:World->Prop)(m:Nat)(ws:List Nat)(hm:P.follows .mixedOrders=true)(hS:S w.drew)
  (h:S w.drew->jm n P .any ops Q S (needs m ws) ops.size (Array.replicate ops.size false) a w.drew):(Code.region id ops true).wp P Q a w :=
 (wpIn_wide (n:=n)).1 (wpIn_region_any hm (ng _ _ _ _ (h hS)))
theorem vK {i:Nat}{oi:Oper}{v:Value}(hi:ops[i]?=some oi)(mj:∀ (j:Nat) (o:Oper) cs b,ops[j]?=some o->o.op≠.select cs b)
  (hQ:∀ c a w,Q (.panic c) (a.put oi.dst v) w->Q (.panic c) a w) :
  ∀ (fuel:Nat) (listed:Array Bool) (a:Act) (w:World),lM md ops N listed i=true ->
   (∀ j oj,ops[j]?=some oj->j≠i->listed.getD j true=false->(∀ e∈oj.after,Region.binds md e=true->e.on≠i)->oi.apart ops oj=true) ->
   NH md ops listed->i∈Region.ready md ops listed->YieldsIf P ops S oi v a->S w ->
   jm n P md ops Q S N fuel (listed.setIfInBounds i true) (a.put oi.dst v) w->jm n P md ops Q S N (fuel+1) listed a w:=by
 intro fuel
 induction fuel with
 | zero =>
  intro listed a w _ _ _ hr hy hS H;refine ⟨fun h=>(by rw [h] at hr;cases hr),fun j hj=>?_⟩
  by_cases nr:j=i
  ·subst nr;exact qU hi hy hS ⟨fun _=>hS,H⟩
  ·have:=ix hj nr
   rw [H.1] at this;cases this
 | succ fuel ih =>
  intro listed a w hl oc hc hr hy hS H;have pN:=(mem_ready.1 hr).1;refine ⟨fun h=>(by rw [h] at hr;cases hr),fun j hj=>?_⟩
  by_cases nr:j=i
  ·subst nr;exact qU hi hy hS ⟨fun _=>hS,H⟩
  ·have UY:N j=true:=by
    cases hN:N j with
    | true=>rfl
    | false=>exact absurd hj (nW hc (Gs hl hN (mV hj) (mem_ready.1 hj).1) pN)
   have h1:=H.2 j (ix hj nr);obtain ⟨zj,oj,F0,hall⟩:=mem_ready.1 hj
   have IP:∀ e∈oj.after,Region.binds md e=true->e.on≠i:=fun e he hb heq=>by
    have h1:=hall e he hb;rw [heq,getD_both pN] at h1;cases h1
   have h2:=BV F0 (oc j oj F0 nr zj IP) (fun cs b=>mj i oi cs b hi) (fun cs b=>mj j oj cs b F0) hQ hy h1
   have pP:∀ k ok,ops[k]?=some ok->k≠i->(listed.setIfInBounds j true).getD k true=false ->
     (∀ e∈ok.after,Region.binds md e=true->e.on≠i)->oi.apart ops ok=true:=fun k ok hk JH pN hno=>by
    refine oc k ok hk JH ?_ hno
    by_cases hjk:j=k
    ·subst hjk;exact zj
    ·rw [ly true hjk] at pN;exact pN
   refine wpOpIn_mono (fun a' w' h3=>⟨h3.2.1,ih (listed.setIfInBounds j true) a' w' (uJ hl) pP (hc.set hj) (ix hr (Ne.symm nr)) h3.1 (h3.2.1 UY) ?_⟩) h2;rw [FA _ _ nr];exact h3.2.2
theorem bQ {i:Nat}{d:Tmp}{oi:Oper}{v:Value}{fuel:Nat}{listed:Array Bool}{a:Act}{w:World}(hi:ops[i]?=some oi)(hd:oi.dst=some d)
  (hb:(Region.noSelect ops&&Region.free md ops listed i&&(Region.ready md ops listed).contains i&&lM md ops N listed i&&BF md ops listed)=true)
  (hQ:∀ c a w,Q (.panic c) (a.put (some d) v) w->Q (.panic c) a w) (hy:YieldsIf P ops S oi v a) (hS:S w)
  (h:jm n P md ops Q S N fuel (listed.setIfInBounds i true) (a.put (some d) v) w):jm n P md ops Q S N (fuel+1) listed a w:=by
 simp only [eh] at hb;obtain ⟨⟨⟨⟨h1,h2⟩,h3⟩,h4⟩,h5⟩:=hb;rw [<- hd] at hQ h;exact vK hi (ua h1) hQ fuel listed a w h4 (Region.free_spec hi h2) (oK h5) (by simpa using h3) hy hS h
theorem jh {i:Nat}{o:Oper}{fuel:Nat}{listed:Array Bool}{a:Act}{w:World}(hi:ops[i]?=some o)(hw:Region.wanted o (yielded ops a.tmps)=true)(hr:Region.ready md ops listed=[i])
  (h:∀ K:Act->World->Prop,Hid (∀ a' w',(N i=true->S w')->jm n P md ops Q S N fuel (listed.setIfInBounds i true) a' w'->K a' w')->o.wpIn Fence.wide n P a w K Q):jm n P md ops Q S N (fuel+1) listed a w:=by
 refine ⟨fun h0=>(by rw [hr] at h0;cases h0),fun j hj=>?_⟩
 rw [hr] at hj;obtain rfl:j=i:=by simpa using hj
 unfold wpOpIn;simp only [hi,hw,ej];exact h _ (aa fun a' w' h1 h2=>⟨h1,h2⟩)
theorem xX {listed:Array Bool}{a:Act}{w:World}(hr:Region.ready md ops listed=[])(h:Q .normal a w):jm n P md ops Q S N 0 listed a w:=⟨hr,h⟩
theorem xI {o:Oper}{a:Act}{w w':World}{K:Act->World->Prop}{f:FuncId}{args:Array Value}(hr:(execOp a.eval o).run P w=.ok (.enter f args) w')
  (h:Calls P f args w' fun e w''=>match e with | .returned v=>K (a.put o.dst v) w'' | .panicked c=>Q (.panic c) a w'' | .outgrown=>LetsOut Q):o.wpIn Fence.wide n P a w K Q:=by
 refine ⟨fun _ _=>trivial,?_⟩;rw [tI,ub,hr];refine ⟨fun q=>by simp [Fence.wide] at q,callsIn_wide.2 (h.mono fun e w'' q=>?_)⟩;cases e <;> exact q
theorem xx {o:Oper}{a:Act}{w w':World}{K:Act->World->Prop}{l:Nat}{f:FuncId}{tmps:Array Value}{assign body:Code}{n':Nat}(hr:(execOp a.eval o).run P w=.ok (.round l f tmps assign body) w')
  (h:RoundIn Fence.wide n' P l f tmps assign body w' fun e w''=>match e with | .returned v=>K (a.put o.dst v) w'' | .panicked c=>Q (.panic c) a w'' | .outgrown=>LetsOut Q):o.wpIn Fence.wide n P a w K Q:=by
 refine ⟨fun _ _=>trivial,?_⟩;rw [tI,ub,hr];refine ⟨fun q=>by simp [Fence.wide] at q,h.1,fun c cs _=>?_⟩;obtain ⟨e,w'',q,r⟩:=h.2 c cs (room_wide _);exact ⟨e,w'',by cases e <;> exact q,r⟩
theorem o6 {o:Oper}{a:Act}{w w':World}{K:Act->World->Prop}{v:Value}(hr:(execOp a.eval o).run P w=.ok (.value v) w')(h:K (a.put o.dst v) w'):o.wpIn Fence.wide n P a w K Q:=by
 refine ⟨fun _ _=>trivial,?_⟩;rw [tI,ub,hr];exact h
end
noncomputable def EQ (n:Nat):Code:=((Tryz.f200.body.bind (kX n)).getD .skip)
theorem lW {Bv Bs Ba l n':Nat}{w:World}{name on log pool:ByteArray}{s st len kd ch dev mode dn:Int}{ap sp:Option Addr}{al ac sl sc:Nat}{R:Bool->World->Prop}
  (hv:w.cell? ⟨Bv,0,none⟩=some (.string name)) (ha:w.heap[Ba]?=some (.cells #[.bool false,.string on,.int .i64 s] 60 (0,0)))
  (hs:w.heap[Bs]?=some (.cells #[.int .i64 st,.int .i64 len,.int .i64 kd,.slice ap al ac,.int .i64 ch,.slice sp sl sc,.string log,.string pool,.int .i64 dev,.int .i64 mode,.int .i64 dn] 79 (0,0))) (h0:0<=len) (h1:len<=1000000) (Jb:al<=1000) (JX:Bv<w.heap.size)
  (hY:∀ w',Below w.heap.size w w'->YieldAt Fence.wide n' prog l #[.agg #[.string name,.string on,.int .i64 s,.int .i64 (iB kd len al)]] w' fun e w2=>∃ go:Bool,e=.returned (.bool go)/\R go w2)
  (c1 c2 c3 c5 c7 c9 c10 c11 c12 c13 c14 c15 c16 c17 c18 c19 c20 c21 c22 c23 c24 c25 c26 c27 c28 c29 c30 c31 c32 c33 c34 c35 c36 c37 c38 c39 c40 c41 c42 c43 c44 c45 c46 c47 c48 c49 c50 c51 c52 c53 c54 c55 c56 c57 c58 c59 c60 c61 c62:Value) (K:Act->World->Prop) (Q:Exit->Act->World->Prop) (hQ:∀ c (a:Act) (d:Tmp) (v:Value) w,Q (.panic c) (a.put (some d) v) w->Q (.panic c) a w)
  (HK:Hid (∀ (go:Bool) (w':World) (u43 u44 u45 u46 u47 u48 u49 u50 u51 u52 u53 u54 u55 u56 u57 u58:Value),R go w'->K ⟨#[.func (.yield l) #[] #[],c1,c2,c3,.pointer (some ⟨Bv,0,none⟩),c5,.pointer (some ⟨Bs,0,none⟩),c7,.pointer (some ⟨Ba,0,none⟩),c9,c10,c11,c12,c13,c14,c15,c16,c17,c18,c19,c20,c21,c22,c23,c24,c25,c26,c27,c28,c29,c30,c31,c32,c33,c34,c35,c36,c37,c38,c39,c40,c41,c42,u43,u44,u45,u46,u47,u48,u49,u50,u51,u52,u53,u54,u55,u56,u57,u58,.bool (!go),c60,c61,c62],[]⟩ w')) :
  Code.wp prog (EQ 10) (Exit.then K Q) ⟨#[.func (.yield l) #[] #[],c1,c2,c3,.pointer (some ⟨Bv,0,none⟩),c5,.pointer (some ⟨Bs,0,none⟩),c7,.pointer (some ⟨Ba,0,none⟩),c9,c10,c11,c12,c13,c14,c15,c16,c17,c18,c19,c20,c21,c22,c23,c24,c25,c26,c27,c28,c29,c30,c31,c32,c33,c34,c35,c36,c37,c38,c39,c40,c41,c42,c43,c44,c45,c46,c47,c48,c49,c50,c51,c52,c53,c54,c55,c56,c57,c58,c59,c60,c61,c62],[]⟩ w:=by
 conv=>arg 2;whnf
 have JY:=aq hs;have NU:=aq ha;have HS:Hid (∀ w':World,w'.heap[Bv]?=w.heap[Bv]?->w'.heap[Bs]?=w.heap[Bs]?->w'.heap[Ba]?=w.heap[Ba]?->w'.cell? ⟨Bv,0,none⟩=some (.string name)/\w'.cell? ⟨Ba,0,none⟩=some (.bool false)/\w'.cell? ⟨Ba,1,none⟩=some (.string on)/\w'.cell? ⟨Ba,2,none⟩=some (.int .i64 s)/\w'.cell? ⟨Bs,0,none⟩=some (.int .i64 st)/\w'.cell? ⟨Bs,1,none⟩=some (.int .i64 len)/\w'.cell? ⟨Bs,2,none⟩=some (.int .i64 kd)/\w'.cell? ⟨Bs,3,none⟩=some (.slice ap al ac)/\w'.cell? ⟨Bs,4,none⟩=some (.int .i64 ch)/\w'.cell? ⟨Bs,5,none⟩=some (.slice sp sl sc)/\w'.cell? ⟨Bs,6,none⟩=some (.string log)/\w'.cell? ⟨Bs,7,none⟩=some (.string pool)/\w'.cell? ⟨Bs,8,none⟩=some (.int .i64 dev)/\w'.cell? ⟨Bs,9,none⟩=some (.int .i64 mode)/\w'.cell? ⟨Bs,10,none⟩=some (.int .i64 dn)):=aa fun w' e1 e2 e3=>⟨(cd (w:=w) e1).trans hv,by simp [World.cell?,e3,ha],by simp [World.cell?,e3,ha],by simp [World.cell?,e3,ha],by simp [World.cell?,e2,hs],by simp [World.cell?,e2,hs],by simp [World.cell?,e2,hs],by simp [World.cell?,e2,hs],by simp [World.cell?,e2,hs],by simp [World.cell?,e2,hs],by simp [World.cell?,e2,hs],by simp [World.cell?,e2,hs],by simp [World.cell?,e2,hs],by simp [World.cell?,e2,hs],by simp [World.cell?,e2,hs]⟩;have HY:=aa hY;clear hY hv ha hs;refine wz 1 (fun w'=>w'.cell? ⟨Bv,0,none⟩=some (.string name)/\w'.cell? ⟨Ba,0,none⟩=some (.bool false)/\w'.cell? ⟨Ba,1,none⟩=some (.string on)/\w'.cell? ⟨Ba,2,none⟩=some (.int .i64 s)/\w'.cell? ⟨Bs,0,none⟩=some (.int .i64 st)/\w'.cell? ⟨Bs,1,none⟩=some (.int .i64 len)/\w'.cell? ⟨Bs,2,none⟩=some (.int .i64 kd)/\w'.cell? ⟨Bs,3,none⟩=some (.slice ap al ac)/\w'.cell? ⟨Bs,4,none⟩=some (.int .i64 ch)/\w'.cell? ⟨Bs,5,none⟩=some (.slice sp sl sc)/\w'.cell? ⟨Bs,6,none⟩=some (.string log)/\w'.cell? ⟨Bs,7,none⟩=some (.string pool)/\w'.cell? ⟨Bs,8,none⟩=some (.int .i64 dev)/\w'.cell? ⟨Bs,9,none⟩=some (.int .i64 mode)/\w'.cell? ⟨Bs,10,none⟩=some (.int .i64 dn)) 14 [] (by kernel_rfl) (HS.o w rfl rfl rfl) (fun hHeld=>?_)
 (refine bQ (i:=0) (v:=?_) rfl rfl (by kernel_rfl) (fun _ _ _ h=>hQ _ _ _ _ _ h) (Or.inl ⟨by rfl,?_⟩) hHeld ?_;rotate_left;(intro w hSw;(try dsimp only at hSw);go_simp;(try (with_reducible rfl)));(try simp only [aS]));(refine bQ (i:=1) (v:=?_) rfl rfl (by kernel_rfl) (fun _ _ _ h=>hQ _ _ _ _ _ h) (Or.inl ⟨by rfl,?_⟩) hHeld ?_;rotate_left;(intro w hSw;(try dsimp only at hSw);go_simp;(try (with_reducible rfl)));(try simp only [aS]));(refine bQ (i:=2) (v:=?_) rfl rfl (by kernel_rfl) (fun _ _ _ h=>hQ _ _ _ _ _ h) (Or.inl ⟨by rfl,?_⟩) hHeld ?_;rotate_left;(intro w hSw;(try dsimp only at hSw);go_simp;(try (with_reducible rfl)));(try simp only [aS]));(refine bQ (i:=3) (v:=?_) rfl rfl (by kernel_rfl) (fun _ _ _ h=>hQ _ _ _ _ _ h) (Or.inl ⟨by rfl,?_⟩) hHeld ?_;rotate_left;(intro w hSw;(try dsimp only at hSw);go_simp;(try (with_reducible rfl)));(try simp only [aS]));(refine bQ (i:=4) (v:=?_) rfl rfl (by kernel_rfl) (fun _ _ _ h=>hQ _ _ _ _ _ h) (Or.inl ⟨by rfl,?_⟩) hHeld ?_;rotate_left;(intro w hSw;(try dsimp only at hSw);go_simp;(try (with_reducible rfl)));(try simp only [aS]));(refine bQ (i:=5) (v:=?_) rfl rfl (by kernel_rfl) (fun _ _ _ h=>hQ _ _ _ _ _ h) (Or.inl ⟨by rfl,?_⟩) hHeld ?_;rotate_left;(intro w hSw;(try dsimp only at hSw);go_simp;(try (with_reducible rfl)));(try simp only [aS]));(refine bQ (i:=7) (v:=?_) rfl rfl (by kernel_rfl) (fun _ _ _ h=>hQ _ _ _ _ _ h) (Or.inl ⟨by rfl,?_⟩) hHeld ?_;rotate_left;(intro w hSw;(try dsimp only at hSw);go_simp;(try (with_reducible rfl)));(try simp only [aS]));(refine bQ (i:=9) (v:=?_) rfl rfl (by kernel_rfl) (fun _ _ _ h=>hQ _ _ _ _ _ h) (Or.inl ⟨by rfl,?_⟩) hHeld ?_;rotate_left;(intro w hSw;(try dsimp only at hSw);go_simp;(try (with_reducible rfl)));(try simp only [aS]));(refine bQ (i:=6) (v:=?_) rfl rfl (by kernel_rfl) (fun _ _ _ h=>hQ _ _ _ _ _ h) (Or.inl ⟨by rfl,?_⟩) hHeld ?_;rotate_left;(intro w hSw;(try dsimp only at hSw);go_simp;(try (with_reducible rfl)));(try simp only [aS]));(refine bQ (i:=8) (v:=?_) rfl rfl (by kernel_rfl) (fun _ _ _ h=>hQ _ _ _ _ _ h) (Or.inl ⟨by rfl,?_⟩) hHeld ?_;rotate_left;(intro w hSw;(try dsimp only at hSw);go_simp;(try (with_reducible rfl)));(try simp only [aS]));(refine bQ (i:=10) (v:=?_) rfl rfl (by kernel_rfl) (fun _ _ _ h=>hQ _ _ _ _ _ h) (Or.inl ⟨by rfl,?_⟩) hHeld ?_;rotate_left;(intro w hSw;(try dsimp only at hSw);go_simp;(try (with_reducible rfl)));(try simp only [aS]));(refine bQ (i:=11) (v:=?_) rfl rfl (by kernel_rfl) (fun _ _ _ h=>hQ _ _ _ _ _ h) (Or.inl ⟨by rfl,?_⟩) hHeld ?_;rotate_left;(intro w hSw;(try dsimp only at hSw);go_simp;(try (with_reducible rfl)));(try simp only [aS]))
 refine jh (i:=12) rfl (by rfl) (by kernel_rfl) (fun K1 hK1=>?_);refine xI (f:=144) (args:=#[.agg #[.int .i64 st,.int .i64 len,.int .i64 kd,.slice ap al ac,.int .i64 ch,.slice sp sl sc,.string log,.string pool,.int .i64 dev,.int .i64 mode,.int .i64 dn]]) (w':=w.drew) (by go_simp) ?_;refine (ji st len kd ch dev mode dn ap sp al ac sl sc log pool w.drew h0 (by omega) (by omega)).mono ?_;rintro e w6 ⟨rfl,hb6⟩;dsimp only;have hb:Below w.heap.size w w6:=((bj _ w).drew).trans hb6;have hHeld2:=HS.o w6 (hb.block Bv JX) (hb.block Bs JY) (hb.block Ba NU);refine hK1.o _ _ (fun _=>hHeld2) ?_;clear hK1 K1 hHeld;simp only [Act.put,xT];have hHeld:=hHeld2;clear hHeld2
 (refine bQ (i:=13) (v:=?_) rfl rfl (by kernel_rfl) (fun _ _ _ h=>hQ _ _ _ _ _ h) (Or.inl ⟨by rfl,?_⟩) hHeld ?_;rotate_left;(intro w hSw;(try dsimp only at hSw);go_simp;(try (with_reducible rfl)));(try simp only [Act.put]))
 obtain ⟨fn,tmps,assign,body,hy,hR⟩:=HY.o w6 hb;refine jh (i:=14) rfl (by rfl) (by kernel_rfl) (fun K1 hK1=>?_);refine xx (l:=l) (f:=fn) (tmps:=tmps) (assign:=assign) (body:=body) (w':=w6) (by go_simp) (hR.mono ?_);rintro e w7 ⟨go,rfl,Z8⟩;dsimp only;refine hK1.o _ _ (fun q=>by simp [needs] at q) ?_;clear hK1 K1;simp only [Act.put];refine jh (i:=15) rfl (by rfl) (by kernel_rfl) (fun K1 hK1=>?_);refine o6 (v:=.bool (!go)) (w':=w7) (by go_simp) ?_;refine hK1.o _ _ (fun q=>by simp [needs] at q) ?_;clear hK1 K1;simp only [Act.put];refine jh (i:=16) rfl (by rfl) (by kernel_rfl) (fun K1 hK1=>?_);refine o6 (v:=.bool (!go)) (w':=w7) (by go_simp) ?_;refine hK1.o _ _ (fun q=>by simp [needs] at q) ?_;clear hK1 K1;simp only [Act.put];refine xX (by kernel_rfl) ?_;exact HK.o go w7 _ _ _ _ _ _ _ _ _ _ _ _ _ _ _ _ Z8
end Go.Proofs.YtjdfihglehfelaaGreatDoor
