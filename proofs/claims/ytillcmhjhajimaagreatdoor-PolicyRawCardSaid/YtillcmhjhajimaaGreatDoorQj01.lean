/- Lemmas: Reg, Base, Glue, MkA, MkC. -/
import Derived.Test.YtillcmhjhajimaaGreatDoorRows
import Derived.BigQuiet
import Derived.Lib.Hide
import Derived.ProofKit
import Derived.Deep.SlicePairs
import Derived.OpenShut
import Derived.WalkSpells
import Derived.WalkLawsBesides
import Derived.StillTailTactics
import Derived.Deep.DeepCutAuto
import Derived.Deep.CutBlock
set_option maxRecDepth 100000
set_option maxHeartbeats 32000000
set_option linter.all false
namespace Go.Proofs.YtillcmhjhajimaaGreatDoor
open Go.Proofs.Tryz
structure Taa{α:Type _}(a:α):Type where
instance {α:Type _}{a:α}:CoeHead (Taa a) α:=⟨fun _=>a⟩
instance {p:Prop}:CoeSort (Taa p) Prop:=⟨fun _=>p⟩
abbrev Tab:=@Taa (Array Value)
instance:Coe Nat Addr:=⟨fun b=>⟨b,0,none⟩⟩
instance {b i}:CoeDep (Nat×Nat) (b,i) Addr:=⟨⟨b,i,none⟩⟩
def Tac(b i:Nat):Taa (⟨b,i,none⟩:Addr):=⟨⟩
variable {W w w':World}{b k:Nat}{l:List Value}{t:TypeId}{a0 a1 a2 a3 a4 a5 a6:Value}
abbrev cd:=@Go.World.cell?_of_block
abbrev bw:=@Go.RowKit.Below.heap_setCell
abbrev aq:=@Go.lt_of_block
abbrev b9:=@Go.heap_alloc_new
abbrev ct:=@List.mem_of_getElem?
abbrev bj:=@Go.RowKit.Below.refl
abbrev bk:=@Nat.le_refl
abbrev cj:=@Go.RowKit.Below.heap_alloc
abbrev cD:=@List.length_append
abbrev cq:=@List.foldl_nil
abbrev cP:=@Go.World.block_lt_of_cell?
abbrev cC:=@Nat.lt_of_lt_of_le
abbrev cG:=@List.mem_cons_self
abbrev cg:=@Nat.zero_le
abbrev cQ:=@List.drop_succ_cons
abbrev cF:=@List.foldl_cons
abbrev cI:=@List.take_length
abbrev aw:=@if_pos
abbrev cN:=@decide_eq_false
abbrev bh:=@if_neg
abbrev cA:=@Nat.le_trans
abbrev cS:=@List.length_cons
abbrev cL:=@List.drop_zero
abbrev cV:=@List.append_assoc
abbrev cW:=@Go.World.size_alloc
abbrev eV:=@List.mem_of_find?_eq_some
abbrev fX:=@List.eq_nil_of_length_eq_zero
abbrev cY:=@List.not_mem_nil
abbrev eh:=@Bool.and_eq_true
abbrev ey:=@List.length_take
abbrev dy:=@Go.IntWalk.i64_in
abbrev fc:=@List.getElem?_of_mem
abbrev dr:=@List.mem_cons
abbrev eA:=@decide_eq_true
abbrev eL:=@List.all_eq_true
abbrev dT:=@Go.RowKit.Below.alloc
abbrev fk:=@decide_eq_true_eq
abbrev fh:=@Go.World.ownsRow.lt
abbrev eM:=@List.append_nil
abbrev ee:=@Go.RowKit.Below.drew
abbrev gg:=@Go.info_parts
abbrev eC:=@Go.bodyPost_ret
abbrev jz:=@List.take_of_length_le
abbrev lO:=@List.getElem?_eq_getElem
abbrev ju:=@List.mem_append_left
abbrev eJ:=@Nat.zero_add
abbrev fW:=@List.length_map
abbrev gS:=@Go.World.ownsRow_nil
abbrev gl:=@List.map_append
abbrev kn:=@List.mem_cons_of_mem
abbrev Ox:=@List.length_nil
abbrev fg:=@Nat.add_zero
abbrev dg:=@or_false
abbrev gj:=@Option.some.inj
abbrev ri:=@List.getElem?_take_of_lt
abbrev fp:=@Nat.mul_one
abbrev tB:=@List.drop_eq_getElem_cons
abbrev rh:=@Go.World.frozen?_of_block
abbrev lr:=@List.all_eq_false
abbrev iv:=@List.take_zero
abbrev fR:=@Go.wpQuiet_nil
abbrev lB:=@List.flatMap_cons
abbrev fN:=@Go.RowKit.Below.grown
abbrev rk:=@List.take_append_drop
abbrev po:=@Go.Calls.quiet_of_same
abbrev xT:=@List.setIfInBounds_toArray
abbrev iu:=@List.map_cons
abbrev pk:=@List.getElem?_drop
abbrev ej:=@if_true
abbrev pj:=@Bool.false_eq_true
abbrev lz:=@Int.ediv_nonneg
abbrev nh:=@List.any_eq_true
abbrev mS:=@Int.ediv_le_self
abbrev tk:=@List.length_filter_le
abbrev iz:=@Go.Addr.add_lit
abbrev Cp:=@List.getElem?_append_right
abbrev tA:=@Nat.mul_le_mul_right
abbrev CC:=@Int.tdiv_eq_ediv_of_nonneg
abbrev rr:=@Nat.lt_of_le_of_lt
abbrev mN:=@Bool.eq_iff_iff
abbrev km:=@List.drop_nil
abbrev xp:=@Array.getElem?_eq_none
abbrev aa0:=@Array.getElem?_eq_getElem
abbrev xj:=@List.getElem?_eq_none
abbrev nj:=@Bool.false_or
abbrev ix:=@Go.ready_mono
abbrev tz:=@Bool.not_eq_true'
abbrev lA:=@Go.Maps.keyOf_int_mk
abbrev tD:=@List.find?_append
abbrev xi:=@List.take_succ_cons
abbrev xt:=@List.flatMap_append
abbrev rj:=@List.any_append
abbrev Fo:=@List.getElem?_append_left
abbrev Cl:=@Go.Lib.run_eql_slice_nil
abbrev P9:=@List.mem_append_right
abbrev CA:=@ByteArray.size_append
abbrev xF:=@List.getElem?_take
abbrev FA:=@Array.setIfInBounds_comm
abbrev ly:=@Go.getD_set_ne
abbrev XS:=@Go.Region.noSelect_spec
abbrev tR:=@List.mem_of_mem_take
abbrev Oy:=@Nat.add_mul
abbrev tP:=@List.pairwise_append
abbrev rI:=@List.getElem?_map
abbrev oT:=@List.mem_append
abbrev fj:=@congrArg
abbrev oA:=@Int.mul_nonneg
abbrev tM:=@List.mem_replicate
abbrev BW:=@Array.getElem?_modify
abbrev A4:=@List.length_singleton
abbrev rp:=@List.cons.injEq
abbrev mm:=@Nat.lt_or_ge
abbrev A5:=@Go.Region.waitsFor_spec
abbrev tE:=@Go.wpList_append_own
abbrev af1:=@List.take_succ_eq_append_getElem
abbrev ud:=@Go.Result.andThen_ok
abbrev fY:=@if_false
abbrev A6:=@Go.ByteArray.toList_eq
abbrev D4:=@Int.eq_ofNat_of_zero_le
abbrev tS:=@List.map_toArray
abbrev E1:=@List.filter_cons_of_pos
abbrev ae7:=@List.filter_cons_of_neg
abbrev tI:=@Go.Fence.wide_round
abbrev ur:=@List.mem_flatMap
abbrev B0:=@Nat.eq_or_lt_of_le
abbrev oB:=@getElem!_pos
abbrev kt:=@Go.RowKit.Below.mono
abbrev tG:=@Bool.or_eq_true
abbrev ub:=@Go.Oper.semAt_none
abbrev DO:=@List.length_mergeSort
abbrev E0:=@List.filterMap_append
abbrev A0:=@List.filter_congr
abbrev Bk:=@List.ext_getElem?
abbrev ue:=@Nat.mul_le_mul
abbrev tW:=@Int.mul_le_mul
abbrev tU:=@Go.run_underlying
theorem _root_.Go.RowKit.Hid.o{p:Prop} (h:Go.RowKit.Hid p):p:=h.out
theorem Tcr{p:Prop}(h:p:=by
 simp only[World.cell?,h];simpa using hz):p:=h
theorem cr     {q:Nat × Nat} (h:W.heap[b]?=some (.cells l.toArray t q)) (i:Nat) (z:Value) (hz:l[i]?=some z):W.cell? (b,i)=some z:=by
 exact Tcr
theorem sr   {l:Array Value}  (h:W.heap[b]?=some (.cells l t (0,0))) (i:Nat):W.frozen? (b,i)=false:=by simp[World.frozen?,h]
theorem sw2     (e:w'.heap[b]?=w.heap[b]?) (h:∀(i:Nat) (z:Value),(a0::a1::l)[i]?=some z->w.cell? (b,k+i)=some z):w'.cell? (b,k)=some a0/\w'.cell? (b,k+1)=some a1:=⟨(cd (a:=⟨b,k+0,none⟩) e).trans (h 0 _ rfl),(cd (a:=⟨b,k+1,none⟩) e).trans (h 1 _ rfl)⟩
theorem Mn     (e:w'.heap[b]?=w.heap[b]?) (h:∀(i:Nat) (z:Value),(a0::a1::a2::l)[i]?=some z->w.cell? (b,k+i)=some z):w'.cell? (b,k)=some a0/\w'.cell? (b,k+1)=some a1/\w'.cell? (b,k+2)=some a2:=⟨(cd (a:=⟨b,k+0,none⟩) e).trans (h 0 _ rfl),(cd (a:=⟨b,k+1,none⟩) e).trans (h 1 _ rfl),(cd (a:=⟨b,k+2,none⟩) e).trans (h 2 _ rfl)⟩
theorem sw4     (e:w'.heap[b]?=w.heap[b]?) (h:∀(i:Nat) (z:Value),(a0::a1::a2::a3::l)[i]?=some z->w.cell? (b,k+i)=some z):w'.cell? (b,k)=some a0/\w'.cell? (b,k+1)=some a1/\w'.cell? (b,k+2)=some a2/\w'.cell? (b,k+3)=some a3:=⟨(cd (a:=⟨b,k+0,none⟩) e).trans (h 0 _ rfl),(cd (a:=⟨b,k+1,none⟩) e).trans (h 1 _ rfl),(cd (a:=⟨b,k+2,none⟩) e).trans (h 2 _ rfl),(cd (a:=⟨b,k+3,none⟩) e).trans (h 3 _ rfl)⟩
theorem NG     (e:w'.heap[b]?=w.heap[b]?) (h:∀(i:Nat) (z:Value),(a0::a1::a2::a3::a4::a5::l)[i]?=some z->w.cell? (b,k+i)=some z):w'.cell? (b,k)=some a0/\w'.cell? (b,k+1)=some a1/\w'.cell? (b,k+2)=some a2/\w'.cell? (b,k+3)=some a3/\w'.cell? (b,k+4)=some a4/\w'.cell? (b,k+5)=some a5:=⟨(cd (a:=⟨b,k+0,none⟩) e).trans (h 0 _ rfl),(cd (a:=⟨b,k+1,none⟩) e).trans (h 1 _ rfl),(cd (a:=⟨b,k+2,none⟩) e).trans (h 2 _ rfl),(cd (a:=⟨b,k+3,none⟩) e).trans (h 3 _ rfl),(cd (a:=⟨b,k+4,none⟩) e).trans (h 4 _ rfl),(cd (a:=⟨b,k+5,none⟩) e).trans (h 5 _ rfl)⟩
theorem OD     (e:w'.heap[b]?=w.heap[b]?) (h:∀(i:Nat) (z:Value),(a0::a1::a2::a3::a4::a5::a6::l)[i]?=some z->w.cell? (b,k+i)=some z):w'.cell? (b,k)=some a0/\w'.cell? (b,k+1)=some a1/\w'.cell? (b,k+2)=some a2/\w'.cell? (b,k+3)=some a3/\w'.cell? (b,k+4)=some a4/\w'.cell? (b,k+5)=some a5/\w'.cell? (b,k+6)=some a6:=⟨(cd (a:=⟨b,k+0,none⟩) e).trans (h 0 _ rfl),(cd (a:=⟨b,k+1,none⟩) e).trans (h 1 _ rfl),(cd (a:=⟨b,k+2,none⟩) e).trans (h 2 _ rfl),(cd (a:=⟨b,k+3,none⟩) e).trans (h 3 _ rfl),(cd (a:=⟨b,k+4,none⟩) e).trans (h 4 _ rfl),(cd (a:=⟨b,k+5,none⟩) e).trans (h 5 _ rfl),(cd (a:=⟨b,k+6,none⟩) e).trans (h 6 _ rfl)⟩
theorem ak5   {a7 a8 a9 a10:Value}  (e:w'.heap[b]?=w.heap[b]?) (h:∀(i:Nat) (z:Value),(a0::a1::a2::a3::a4::a5::a6::a7::a8::a9::a10::l)[i]?=some z->w.cell? (b,k+i)=some z):w'.cell? (b,k)=some a0/\w'.cell? (b,k+1)=some a1/\w'.cell? (b,k+2)=some a2/\w'.cell? (b,k+3)=some a3/\w'.cell? (b,k+4)=some a4/\w'.cell? (b,k+5)=some a5/\w'.cell? (b,k+6)=some a6/\w'.cell? (b,k+7)=some a7/\w'.cell? (b,k+8)=some a8/\w'.cell? (b,k+9)=some a9/\w'.cell? (b,k+10)=some a10:=⟨(cd (a:=⟨b,k+0,none⟩) e).trans (h 0 _ rfl),(cd (a:=⟨b,k+1,none⟩) e).trans (h 1 _ rfl),(cd (a:=⟨b,k+2,none⟩) e).trans (h 2 _ rfl),(cd (a:=⟨b,k+3,none⟩) e).trans (h 3 _ rfl),(cd (a:=⟨b,k+4,none⟩) e).trans (h 4 _ rfl),(cd (a:=⟨b,k+5,none⟩) e).trans (h 5 _ rfl),(cd (a:=⟨b,k+6,none⟩) e).trans (h 6 _ rfl),(cd (a:=⟨b,k+7,none⟩) e).trans (h 7 _ rfl),(cd (a:=⟨b,k+8,none⟩) e).trans (h 8 _ rfl),(cd (a:=⟨b,k+9,none⟩) e).trans (h 9 _ rfl),(cd (a:=⟨b,k+10,none⟩) e).trans (h 10 _ rfl)⟩
section
variable {P:Program}{ops:Array Oper}{md:Region.Mode}{C:World->Prop}
variable {n g i id k:Nat}{L:Array Bool->Act->Prop}{oi:Oper}{v:Value}{Lq:Act->Prop}{Q:Exit->Act->World->Prop}{a:Act}{w:World}{l:List Oper}{listed:Array Bool}
def iZ(P:Program)(md:Region.Mode)(ops:Array Oper)(C:World->Prop)(n:Nat)(L:Array Bool->Act->Prop):Nat->Array Bool->Act->Prop
 |0,listed,a=>L listed a
 |f+1,listed,a=>Region.ready md ops listed≠[]/\∀i∈Region.ready md ops listed,i<n/\qOp P ops C i (iZ P md ops C n L f (listed.setIfInBounds i true)) a
theorem iN{Q':Exit->Act->World->Prop}(hL:∀listed a w,C w->L listed a->wpAny P md ops Q' g listed a w) :
  ∀(f:Nat) (listed:Array Bool) (a:Act) (w:World),C w->iZ P md ops C n L f listed a->wpAny P md ops Q' (f+g) listed a w
 |0,listed,a,w,hw,h=>by rw[eJ];exact hL _ _ _ hw h
 |f+1,listed,a,w,hw,h=>by
  rw[show f+1+g=(f+g)+1 by omega];exact⟨fun h0=>absurd h0 h.1,fun i hi=>wpOp_of_qOp hw (fun a' w' hw' h'=>iN hL f _ a' w' hw' h') (h.2 i hi).2⟩
theorem Tda{p:Prop}(h:p:=by rw[h]at hr;cases hr):p:=h
theorem sw(hi:ops[i]?=some oi)(mj:∀(j:Nat) (o:Oper) cs b,ops[j]?=some o->o.op≠.select cs b)
  (hs:Region.sinkB md ops n=true) (hc:Region.chainB md ops n=true) (hn:n<ops.size) (NM:i<n)
  (hdone:∀listed a,L listed a->∀j∈Region.ready md ops listed,n<=j) :
  ∀(f:Nat) (listed:Array Bool) (a:Act),HeadInv md ops n listed ->
   (∀j oj,ops[j]?=some oj->j≠i->listed.getD j true=false->(∀e∈oj.after,Region.binds md e=true->e.on≠i)->oi.apart ops oj=true) ->
   i∈Region.ready md ops listed->YieldsIn P ops C oi v a ->
   iZ P md ops C n L f (listed.setIfInBounds i true) (a.put oi.dst v)->iZ P md ops C n L (f+1) listed a:=by
 intro f;induction f with
 |zero =>
  intro listed a inv _ hr hy H;have pN:=(mem_ready.1 hr).1;refine⟨fun h=>Tda,fun j hj=>?_⟩;have MK:j<n:=(mm j n).elim id fun h=>absurd hj (tail_waits hs hc hn inv _ i rfl NM pN j h);refine⟨MK,?_⟩
  by_cases nr:j=i
  ·subst nr;exact hy.qOp hi H
  have:=hdone _ _ H j (ix hj nr);omega
 |succ f ih =>
  intro listed a inv ua hr hy H;have pN:=(mem_ready.1 hr).1;refine⟨fun h=>Tda,fun j hj=>?_⟩;have MK:j<n:=(mm j n).elim id fun h=>absurd hj (tail_waits hs hc hn inv _ i rfl NM pN j h);refine⟨MK,?_⟩
  by_cases nr:j=i
  ·subst nr;exact hy.qOp hi H
  have h1:=(H.2 j (ix hj nr)).2;obtain⟨zj,oj,F0,hall⟩:=mem_ready.1 hj;have ao1:∀e∈oj.after,Region.binds md e=true->e.on≠i:=fun e he hb heq=>by
   have h1:=hall e he hb;rw[heq,getD_both pN]at h1;cases h1
  have h2:=qOp_put F0 (ua j oj F0 nr zj ao1) (fun cs b=>mj i oi cs b hi) (fun cs b=>mj j oj cs b F0) hy h1;have pP:∀k ok,ops[k]?=some ok->k≠i->(listed.setIfInBounds j true).getD k true=false ->
    (∀e∈ok.after,Region.binds md e=true->e.on≠i)->oi.apart ops ok=true:=fun k ok hk Ta pN hno=>by
   refine ua k ok hk Ta ?_ hno;by_cases hjk:j=k
   ·subst hjk;exact zj
   rw[ly true hjk]at pN;exact pN
  refine qOp_mono (fun a' h3=>ih (listed.setIfInBounds j true) a' (inv.set hj MK) pP (ix hr (Ne.symm nr)) h3.1 ?_) h2;rw[FA _ _ nr];exact h3.2
theorem TcS{p:Prop}(h:p:=by simp;omega):p:=h
theorem TcO{p:Prop}(h:p:=by simp):p:=h
theorem oV(mj:Region.noSelect ops=true)(hs:Region.sinkB md ops n=true)(hc:Region.chainB md ops n=true)(hn:n<ops.size) :
  ∀(l:List Oper) (k:Nat) (listed:Array Bool) (a:Act),(∀j,j<l.length->l[j]?=ops[k+j]?)->k+l.length=n->HeadInv md ops n listed ->
  Region.lexHead md ops g l.length k listed=true->wpQuiet P ops C Lq l a ->
  iZ P md ops C n (fun listed' a'=>Region.seqB md ops g n listed'=true/\Lq a') l.length listed a
 |[],k,listed,a,_,hk,_,hB,h=>by
  have:k=n:=by simpa using hk
  subst this;exact⟨by simpa[Region.lexHead]using hB,h⟩
 |o :: l,k,listed,a,hl,hk,inv,hB,h=>by
  have h0:ops[k]?=some o:=by simpa using(hl 0 TcO).symm
  simp only[cS,Region.lexHead,eh]at hB;obtain⟨⟨hr,hf⟩,hB'⟩:=hB;have Vk:k<n:=by simp only[cS]at hk;omega
  have hr':k∈Region.ready md ops listed:=by simpa using hr
  have hst:qOp P ops C k (wpQuiet P ops C Lq l) a:=by unfold qOp;simp only[h0];exact h
  obtain⟨v,hy,hK⟩:=yieldsIn_of_qOp h0 hst;exact sw h0 (XS mj) hs hc hn Vk (fun listed' a' hL=>seqB_ready hL.1) l.length listed a inv (Region.free_spec h0 hf) hr' hy
   (oV mj hs hc hn l (k+1) _ _ (fun j hj=>by have:=hl (j+1) TcS;simpa[Nat.add_assoc,Nat.add_comm 1 j]using this) (by simp only[cS]at hk;omega) (inv.set hr' Vk) hB' hK)
theorem TdB{p:Prop}(h:p:=by simpa using ht):p:=h
theorem kM(n:Nat)(hm:P.follows .mixedOrders=true)(hB:Region.lexTailB .any l.toArray n=true)(hC:C w.drew)
  (h:wpQuiet P l.toArray C (fun a'=>∀w',C w'->wpList P l.toArray Q (l.drop n) a' w') (l.take n) a):(Code.region id l.toArray true).wp P Q a w:=by
 simp only[Region.lexTailB,eh,fk]at hB;obtain⟨⟨⟨⟨mj,hn⟩,hs⟩,hc⟩,OE⟩:=hB;have hn':n<l.length:=by simpa using hn
 have nt:(l.take n).length=n:=by simp;omega
 have CD:(l.drop n).length=l.toArray.size-n:=by simp
 have inv0:HeadInv .any l.toArray n (Array.replicate l.toArray.size false) :=
  ⟨TcO,fun j oj _ hl=>(by rw[getD_replicate_false]at hl;cases hl),fun t _ ht=>getD_in TdB (getD_replicate_false _ _)⟩
 have H:=oV (C:=C) (md:=.any) (g:=l.toArray.size-n) mj hs hc hn (l.take n) 0 _ a (fun j hj=>by
  have hj':j<n:=by rw[nt]at hj;exact hj
  simp[hj']) (by simpa using nt) inv0 (by rw[nt];exact OE) h
 refine wp_region_any hm ?_;have:=iN (Q':=Q) (g:=l.toArray.size-n) (fun listed a' w' hw' hL=>by
  have:=wpAny_of_seq (md:=.any) (Q':=Q) (l.drop n) n listed a' w' (fun j=>by simp[pk]) (by rw[CD];exact hL.1) (hL.2 w' hw');rwa[CD]at this) _ _ _ w.drew hC H
 rw[nt,show n+(l.toArray.size-n)=l.toArray.size by omega]at this;exact this
theorem il(n:Nat)(hm:P.follows .mixedOrders=true)(hB:Region.lexTailB .any l.toArray n=true)
  (h:wpQuiet P l.toArray (fun w'=>∃m,w'=w.drewN m) (fun a'=>∀w',(∃m,w'=w.drewN m)->wpList P l.toArray Q (l.drop n) a' w') (l.take n) a):(Code.region id l.toArray true).wp P Q a w :=
 kM (C:=fun w'=>∃m,w'=w.drewN m) n hm hB ⟨1,rfl⟩ h
def nk(md:Region.Mode)(ops:Array Oper)(k n:Nat):Bool :=
 (List.range n).all fun i=>decide (i<k)||(List.range (n+1)).any fun j=>decide (i<j)&&Region.waitsFor md ops j i
def Ej(md:Region.Mode)(ops:Array Oper)(listed:Array Bool):Bool :=
 (List.range ops.size).all fun j=>match ops[j]? with
  |some oj=>!listed.getD j false||oj.after.all fun e=>!Region.binds md e||listed.getD e.on false
  |none=>true
def ES(listed:Array Bool)(k:Nat):Bool:=(List.range k).all fun i=>listed.getD i false
def AB(listed:Array Bool)(n m:Nat):Bool:=(List.range m).all fun t=>decide (t<n)||!listed.getD t true
def zS(md:Region.Mode)(ops:Array Oper)(k n:Nat)(listed:Array Bool):Bool :=
 Region.noSelect ops&&decide (n<ops.size)&&decide (k<=n)&&decide (listed.size=ops.size)&&nk md ops k n&&Region.chainB md ops n&&Ej md ops listed&&ES listed k&&AB listed n ops.size&&Region.lexHead md ops (ops.size-n) (n-k) k listed
theorem yR(h:listed.getD i false=true):listed.getD i true=true:=by
 rcases mm i listed.size with h'|h'
 ·simp[h']at h ⊢;exact h
 simp[xp h']
theorem TcN{p:Prop}(h:p:=by omega):p:=h
theorem kH(hs:nk md ops k n=true)(hc:Region.chainB md ops n=true)(hn:n<ops.size)(inv:HeadInv md ops n listed)(hf:∀i,i<k->listed.getD i true=true) :
  ∀(d i:Nat),n-i=d->i<n->listed.getD i true=false->∀t,n<=t->t ∉ Region.ready md ops listed:=by
 intro d;induction d using Nat.strongRecOn with
 |_ d ih =>
  intro i hd hi pN t ht hr;obtain⟨_,ot,Mo,hall⟩:=mem_ready.1 hr;have UW:t<ops.size:=(Array.getElem?_eq_some_iff.1 Mo).1;have hik:¬i<k:=fun h=>by rw[hf i h]at pN;cases pN
  by_cases NN:t=n
  ·subst NN;have h1:=List.all_eq_true.1 hs i (List.mem_range.2 hi);simp only[cN hik,nj]at h1;obtain⟨j,hj,hj2⟩:=List.any_eq_true.1 h1;simp only[eh,fk]at hj2;obtain⟨oj,F0,e,he,hb,hon⟩:=A5 hj2.2;have Zz:j<=t:=by have:=List.mem_range.1 hj;omega
   by_cases ZA:j=t
   ·subst ZA;have:oj=ot:=gj (F0.symm.trans Mo);subst this;have h2:=hall e he hb;rw[hon,getD_both pN]at h2;cases h2
   cases hl:listed.getD j false with
   |true =>
    have h2:=inv.closed j oj F0 hl e he hb;rw[hon,getD_both pN]at h2;cases h2
   |false =>
    have ZB:j<listed.size:=by rw[inv.size];omega
    exact ih (t-j) TcN j rfl TcN (getD_in ZB hl) t (bk _) hr
  have h1:=List.all_eq_true.1 hc t (List.mem_range.2 UW);simp only[tG,fk]at h1;rcases h1 with h1|h1
  ·omega
  obtain⟨o',ho',e,he,hb,hon⟩:=A5 h1;have:o'=ot:=gj (ho'.symm.trans Mo);subst this;have h2:=hall e he hb;rw[hon,getD_both (inv.tail (t-1) TcN TcN)]at h2;cases h2
theorem sZ(hf:∀i,i<k->listed.getD i true=true):∀j,j<k->(listed.setIfInBounds i true).getD j true=true:=fun j hj=>by
 by_cases OG:i=j
 ·subst OG;rcases mm i listed.size with h'|h'
  ·simp[h']
  simp[xp (show(listed.setIfInBounds i true).size<=i by simpa using h')]
 rw[ly true OG];exact hf j hj
theorem ma(hi:ops[i]?=some oi)(mj:∀(j:Nat) (o:Oper) cs b,ops[j]?=some o->o.op≠.select cs b)
  (hs:nk md ops k n=true) (hc:Region.chainB md ops n=true) (hn:n<ops.size) (NM:i<n)
  (hdone:∀listed a,L listed a->∀j∈Region.ready md ops listed,n<=j) :
  ∀(f:Nat) (listed:Array Bool) (a:Act),HeadInv md ops n listed->(∀i,i<k->listed.getD i true=true) ->
   (∀j oj,ops[j]?=some oj->j≠i->listed.getD j true=false->(∀e∈oj.after,Region.binds md e=true->e.on≠i)->oi.apart ops oj=true) ->
   i∈Region.ready md ops listed->YieldsIn P ops C oi v a ->
   iZ P md ops C n L f (listed.setIfInBounds i true) (a.put oi.dst v)->iZ P md ops C n L (f+1) listed a:=by
 intro f;induction f with
 |zero =>
  intro listed a inv hf _ hr hy H;have pN:=(mem_ready.1 hr).1;refine⟨fun h=>Tda,fun j hj=>?_⟩;have MK:j<n:=(mm j n).elim id fun h=>absurd hj (kH hs hc hn inv hf _ i rfl NM pN j h);refine⟨MK,?_⟩
  by_cases nr:j=i
  ·subst nr;exact hy.qOp hi H
  have:=hdone _ _ H j (ix hj nr);omega
 |succ f ih =>
  intro listed a inv hf ua hr hy H;have pN:=(mem_ready.1 hr).1;refine⟨fun h=>Tda,fun j hj=>?_⟩;have MK:j<n:=(mm j n).elim id fun h=>absurd hj (kH hs hc hn inv hf _ i rfl NM pN j h);refine⟨MK,?_⟩
  by_cases nr:j=i
  ·subst nr;exact hy.qOp hi H
  have h1:=(H.2 j (ix hj nr)).2;obtain⟨zj,oj,F0,hall⟩:=mem_ready.1 hj;have ao1:∀e∈oj.after,Region.binds md e=true->e.on≠i:=fun e he hb heq=>by
   have h1:=hall e he hb;rw[heq,getD_both pN]at h1;cases h1
  have h2:=qOp_put F0 (ua j oj F0 nr zj ao1) (fun cs b=>mj i oi cs b hi) (fun cs b=>mj j oj cs b F0) hy h1;have pP:∀k ok,ops[k]?=some ok->k≠i->(listed.setIfInBounds j true).getD k true=false ->
    (∀e∈ok.after,Region.binds md e=true->e.on≠i)->oi.apart ops ok=true:=fun k ok hk Ta pN hno=>by
   refine ua k ok hk Ta ?_ hno;by_cases hjk:j=k
   ·subst hjk;exact zj
   rw[ly true hjk]at pN;exact pN
  refine qOp_mono (fun a' h3=>ih (listed.setIfInBounds j true) a' (inv.set hj MK) (sZ hf) pP (ix hr (Ne.symm nr)) h3.1 ?_) h2;rw[FA _ _ nr];exact h3.2
theorem jH{k0:Nat}(mj:Region.noSelect ops=true)(hs:nk md ops k0 n=true)(hc:Region.chainB md ops n=true)(hn:n<ops.size) :
  ∀(l:List Oper) (k:Nat) (listed:Array Bool) (a:Act),(∀j,j<l.length->l[j]?=ops[k+j]?)->k+l.length=n->HeadInv md ops n listed->(∀i,i<k0->listed.getD i true=true) ->
  Region.lexHead md ops g l.length k listed=true->wpQuiet P ops C Lq l a ->
  iZ P md ops C n (fun listed' a'=>Region.seqB md ops g n listed'=true/\Lq a') l.length listed a
 |[],k,listed,a,_,hk,_,_,hB,h=>by
  have:k=n:=by simpa using hk
  subst this;exact⟨by simpa[Region.lexHead]using hB,h⟩
 |o :: l,k,listed,a,hl,hk,inv,hf0,hB,h=>by
  have h0:ops[k]?=some o:=by simpa using(hl 0 TcO).symm
  simp only[cS,Region.lexHead,eh]at hB;obtain⟨⟨hr,hf⟩,hB'⟩:=hB;have Vk:k<n:=by simp only[cS]at hk;omega
  have hr':k∈Region.ready md ops listed:=by simpa using hr
  have hst:qOp P ops C k (wpQuiet P ops C Lq l) a:=by unfold qOp;simp only[h0];exact h
  obtain⟨v,hy,hK⟩:=yieldsIn_of_qOp h0 hst;exact ma h0 (XS mj) hs hc hn Vk (fun listed' a' hL=>seqB_ready hL.1) l.length listed a inv hf0 (Region.free_spec h0 hf) hr' hy
   (jH mj hs hc hn l (k+1) _ _ (fun j hj=>by have:=hl (j+1) TcS;simpa[Nat.add_assoc,Nat.add_comm 1 j]using this) (by simp only[cS]at hk;omega) (inv.set hr' Vk) (sZ hf0) hB' hK)
theorem zu(k n:Nat)(listed:Array Bool)(hB:zS .any l.toArray k n listed=true)(hC:C w)
  (h:wpQuiet P l.toArray C (fun a'=>∀w',C w'->wpList P l.toArray Q (l.drop n) a' w') ((l.take n).drop k) a):wpAny P .any l.toArray Q (l.length-k) listed a w:=by
 simp only[zS,eh,fk]at hB;obtain⟨⟨⟨⟨⟨⟨⟨⟨⟨mj,hn⟩,Vk⟩,hsz⟩,hs⟩,hc⟩,XJ⟩,ZC⟩,pN⟩,OE⟩:=hB;have hn':n<l.length:=by simpa using hn
 have nt:((l.take n).drop k).length=n-k:=by simp;omega
 have CD:(l.drop n).length=l.toArray.size-n:=by simp
 have hf0:∀i,i<k->listed.getD i true=true:=fun i hi=>yR (List.all_eq_true.1 ZC i (List.mem_range.2 hi))
 have inv0:HeadInv .any l.toArray n listed:=by
  refine⟨hsz,fun j oj hj hl e he hb=>?_,fun t ht ht'=>?_⟩
  ·have h1:=List.all_eq_true.1 XJ j (List.mem_range.2 (Array.getElem?_eq_some_iff.1 hj).1);simp only[hj,hl,Bool.not_true,nj]at h1;have h2:=Array.all_eq_true_iff_forall_mem.1 h1 e he;simpa[hb]using h2
  have h1:=List.all_eq_true.1 pN t (List.mem_range.2 ht');simp only[tG,fk,tz]at h1;rcases h1 with h1|h1
  ·omega
  exact h1
 have H:=jH (P:=P) (C:=C) (md:=.any) (k0:=k) (g:=l.toArray.size-n) mj hs hc hn ((l.take n).drop k) k listed a (fun j hj=>by
  have hj':j<n-k:=by rw[nt]at hj;exact hj
  simp[pk,show k+j<n by omega]) (by rw[nt];omega) inv0 hf0 (by rw[nt];exact OE) h
 have:=iN (Q':=Q) (g:=l.toArray.size-n) (fun listed a' w' hw' hL=>by
  have:=wpAny_of_seq (md:=.any) (Q':=Q) (l.drop n) n listed a' w' (fun j=>by simp[pk]) (by rw[CD];exact hL.1) (hL.2 w' hw');rwa[CD]at this) _ _ _ w hC H
 rw[nt,show n-k+(l.toArray.size-n)=l.length-k by simp;omega]at this;exact this
theorem lC{o:Oper}(x:Operand)(n:Nat)(hm:P.follows .mixedOrders=true)(ho:o.op=.move x)(hg:o.guard=none)
  (hB0:(Region.noSelect (o :: l).toArray&&Region.free .any (o :: l).toArray (Array.replicate (o :: l).toArray.size false) 0&&(Region.ready .any (o :: l).toArray (Array.replicate (o :: l).toArray.size false)).contains 0)=true)
  (hB:zS .any (o :: l).toArray 1 n ((Array.replicate (o :: l).toArray.size false).setIfInBounds 0 true)=true)
  (hQ':∀c (v:Value) a w,Q (.panic c) (a.put o.dst v) w->Q (.panic c) a w) (hC:C w.drew)
  (h:wpQuiet P (o :: l).toArray C (fun a'=>∀w',C w'->wpList P (o :: l).toArray Q ((o :: l).drop n) a' w') (((o :: l).take n).drop 1) (a.put o.dst (a.eval x))):(Code.region id (o :: l).toArray true).wp P Q a w:=by
 simp only[eh]at hB0;obtain⟨⟨h1,h2⟩,h3⟩:=hB0;refine wp_region_any hm ?_;have hy:Yields P (o :: l).toArray o (a.eval x) a:=.inl ⟨by simp[Region.wanted,hg],fun w=>by rw[BigFrame.run_move x ho]⟩;have H:=zu (P:=P) (C:=C) (Q:=Q) (w:=w.drew) 1 n _ hB hC h;exact wpAny_take (i:=0) (v:=a.eval x) (fuel:=l.length) TcO h1 h2 h3 (fun c=>hQ' c _) hy (by simpa using H)
theorem TdA{p:Prop}(h:p:=by rw[ha];exact h):p:=h
theorem uk{a':Act}{o:Oper}(x:Operand)(n:Nat)(hm:P.follows .mixedOrders=true)(ho:o.op=.move x)(hg:o.guard=none)
  (hB0:(Region.noSelect (o :: l).toArray&&Region.free .any (o :: l).toArray (Array.replicate (o :: l).toArray.size false) 0&&(Region.ready .any (o :: l).toArray (Array.replicate (o :: l).toArray.size false)).contains 0)=true)
  (hB:zS .any (o :: l).toArray 1 n ((Array.replicate (o :: l).toArray.size false).setIfInBounds 0 true)=true)
  (hQ':∀c (v:Value) a w,Q (.panic c) (a.put o.dst v) w->Q (.panic c) a w) (ha:a.put o.dst (a.eval x)=a')
  (h:wpQuiet P (o :: l).toArray (fun w'=>∃m,w'=w.drewN m) (fun a'=>∀w',(∃m,w'=w.drewN m)->wpList P (o :: l).toArray Q ((o :: l).drop n) a' w') (((o :: l).take n).drop 1) a'):(Code.region id (o :: l).toArray true).wp P Q a w :=
 lC (C:=fun w'=>∃m,w'=w.drewN m) x n hm ho hg hB0 hB hQ' ⟨1,rfl⟩ TdA
end
variable {P:Nat->Value->Prop}{a0 a1 a2 a3 a4 a5 a6 a7 a8 a9 a10:Value}{l:List Value}
theorem aa{p:Prop} (h:p):Go.RowKit.Hid p:=h
theorem sv3    (h:∀(i:Nat) (z:Value),(a0::a1::a2::l)[i]?=some z->P i z):P 0 a0/\P 1 a1/\P 2 a2:=⟨h 0 _ rfl,h 1 _ rfl,h 2 _ rfl⟩
theorem sv4    (h:∀(i:Nat) (z:Value),(a0::a1::a2::a3::l)[i]?=some z->P i z):P 0 a0/\P 1 a1/\P 2 a2/\P 3 a3:=⟨h 0 _ rfl,h 1 _ rfl,h 2 _ rfl,h 3 _ rfl⟩
theorem sv5    (h:∀(i:Nat) (z:Value),(a0::a1::a2::a3::a4::l)[i]?=some z->P i z):P 0 a0/\P 1 a1/\P 2 a2/\P 3 a3/\P 4 a4:=⟨h 0 _ rfl,h 1 _ rfl,h 2 _ rfl,h 3 _ rfl,h 4 _ rfl⟩
theorem sv6    (h:∀(i:Nat) (z:Value),(a0::a1::a2::a3::a4::a5::l)[i]?=some z->P i z):P 0 a0/\P 1 a1/\P 2 a2/\P 3 a3/\P 4 a4/\P 5 a5:=⟨h 0 _ rfl,h 1 _ rfl,h 2 _ rfl,h 3 _ rfl,h 4 _ rfl,h 5 _ rfl⟩
theorem se    (h:∀(i:Nat) (z:Value),(a0::a1::a2::a3::a4::a5::a6::l)[i]?=some z->P i z):P 0 a0/\P 1 a1/\P 2 a2/\P 3 a3/\P 4 a4/\P 5 a5/\P 6 a6:=⟨h 0 _ rfl,h 1 _ rfl,h 2 _ rfl,h 3 _ rfl,h 4 _ rfl,h 5 _ rfl,h 6 _ rfl⟩
theorem sv8    (h:∀(i:Nat) (z:Value),(a0::a1::a2::a3::a4::a5::a6::a7::l)[i]?=some z->P i z):P 0 a0/\P 1 a1/\P 2 a2/\P 3 a3/\P 4 a4/\P 5 a5/\P 6 a6/\P 7 a7:=⟨h 0 _ rfl,h 1 _ rfl,h 2 _ rfl,h 3 _ rfl,h 4 _ rfl,h 5 _ rfl,h 6 _ rfl,h 7 _ rfl⟩
theorem xr    (h:∀(i:Nat) (z:Value),(a0::a1::a2::a3::a4::a5::a6::a7::a8::l)[i]?=some z->P i z):P 0 a0/\P 1 a1/\P 2 a2/\P 3 a3/\P 4 a4/\P 5 a5/\P 6 a6/\P 7 a7/\P 8 a8:=⟨h 0 _ rfl,h 1 _ rfl,h 2 _ rfl,h 3 _ rfl,h 4 _ rfl,h 5 _ rfl,h 6 _ rfl,h 7 _ rfl,h 8 _ rfl⟩
theorem IG    (h:∀(i:Nat) (z:Value),(a0::a1::a2::a3::a4::a5::a6::a7::a8::a9::l)[i]?=some z->P i z):P 0 a0/\P 1 a1/\P 2 a2/\P 3 a3/\P 4 a4/\P 5 a5/\P 6 a6/\P 7 a7/\P 8 a8/\P 9 a9:=⟨h 0 _ rfl,h 1 _ rfl,h 2 _ rfl,h 3 _ rfl,h 4 _ rfl,h 5 _ rfl,h 6 _ rfl,h 7 _ rfl,h 8 _ rfl,h 9 _ rfl⟩
theorem IC    (h:∀(i:Nat) (z:Value),(a0::a1::a2::a3::a4::a5::a6::a7::a8::a9::a10::l)[i]?=some z->P i z):P 0 a0/\P 1 a1/\P 2 a2/\P 3 a3/\P 4 a4/\P 5 a5/\P 6 a6/\P 7 a7/\P 8 a8/\P 9 a9/\P 10 a10:=⟨h 0 _ rfl,h 1 _ rfl,h 2 _ rfl,h 3 _ rfl,h 4 _ rfl,h 5 _ rfl,h 6 _ rfl,h 7 _ rfl,h 8 _ rfl,h 9 _ rfl,h 10 _ rfl⟩
theorem IE  {a11:Value}  (h:∀(i:Nat) (z:Value),(a0::a1::a2::a3::a4::a5::a6::a7::a8::a9::a10::a11::l)[i]?=some z->P i z):P 0 a0/\P 1 a1/\P 2 a2/\P 3 a3/\P 4 a4/\P 5 a5/\P 6 a6/\P 7 a7/\P 8 a8/\P 9 a9/\P 10 a10/\P 11 a11:=⟨h 0 _ rfl,h 1 _ rfl,h 2 _ rfl,h 3 _ rfl,h 4 _ rfl,h 5 _ rfl,h 6 _ rfl,h 7 _ rfl,h 8 _ rfl,h 9 _ rfl,h 10 _ rfl,h 11 _ rfl⟩
open Go.RowKit
variable {a:Act}{b B id B':Nat}{w w' W:World}{i l:List (Int × Int)}{v:Value}{P:Program}{Q:Exit->Act->World->Prop}{α:Type}{ops:Array Oper}{rest:List Oper}{q:Int × Int}
theorem ah{a b:Bool}(h:a=b):Ending.returned (.bool a)=.returned (.bool b):=by rw[h]
theorem cz{k:IntKind}{a b:Int}(h:a=b):Ending.returned (.int k a)=.returned (.int k b):=by rw[h]
theorem aD{cs:Array Value}{t:TypeId}{i:Nat}(hb:b=w.heap.size)(h:cs[i]?=some v):(w.alloc (.cells cs t)).cell? (b,i)=some v:=by
 subst hb;have:(w.alloc (.cells cs t)).heap[w.heap.size]?=some (.cells cs t (0,0)):=b9 w _;unfold World.cell?;simp only[this];simpa using h
theorem mn{a b c:World}(h:Below a.heap.size a b)(k:Below b.heap.size b c):Below a.heap.size a c:=h.trans (k.mono h.size)
theorem aT{a:World}(h:Below B a w)(n:Nat):Below B a (w.drewN n):=⟨h.os,h.tape,h.output,h.size,h.block⟩
structure fo where
 d:Nat
 os:Array Obj
instance:Inhabited fo:=⟨⟨0,#[]⟩⟩
def ext(w:World)(p:fo):World:={ w with drawn:=p.d,heap:=w.heap++p.os }
theorem dQ(w:World)(p:fo):Below w.heap.size w (ext w p) :=
 ⟨rfl,rfl,rfl,by simp[ext],fun k hk=>by simp[ext,Array.getElem?_append,hk]⟩
theorem jX(h:Below w.heap.size w w'):∃p:fo,w'=ext w p:=by
 refine⟨⟨w'.drawn,w'.heap.extract w.heap.size w'.heap.size⟩,?_⟩;have hh:w'.heap=w.heap++w'.heap.extract w.heap.size w'.heap.size:=by
  apply Array.ext_getElem?;intro i;rw[Array.getElem?_append];split
  ·rename_i hi;exact h.block i hi
  rename_i hi;have:=h.size;rw[Array.getElem?_extract];by_cases h2:i<w'.heap.size
  ·rw[aw TcN];congr 1;omega
  rw[bh TcN];exact xp TcN
 unfold ext;cases w'
 simp only[World.mk.injEq];exact⟨hh,h.tape,trivial,h.os,h.output⟩
theorem dY(h:∃p:fo,w'=ext w p):Below w.heap.size w w':=by
 obtain⟨p,rfl⟩:=h;exact dQ w p
theorem aG{o:Nat}(hb:b<w.heap.size)(h:w.cell? (b,o)=some v)(p:fo):(ext w p).cell? (b,o)=some v :=
 ((dQ w p).cell (p:=⟨b,o,none⟩) hb).trans h
theorem Tdc{p:Prop}(h:p:=by simpa using h):p:=h
theorem aU{l:List Oper}(hm:P.follows .mixedOrders=true)(hB:Region.lexB .any l.toArray=true)
  (h:wpQuiet P l.toArray (fun w'=>∃p:fo,w'=ext w p) (fun a'=>∀w',(∃p:fo,w'=ext w p)->Q .normal a' w') l a):(Code.region id l.toArray true).wp P Q a w :=
 wp_region_quiet (C:=fun w'=>∃p:fo,w'=ext w p) hm hB (jX ((bj _ w).drew)) Tdc
theorem lG{a':Act}{o:Oper}{l:List Oper}(x:Operand)(n:Nat)(hm:P.follows .mixedOrders=true)(ho:o.op=.move x)(hg:o.guard=none)
  (hB0:(Region.noSelect (o :: l).toArray&&Region.free .any (o :: l).toArray (Array.replicate (o :: l).toArray.size false) 0&&(Region.ready .any (o :: l).toArray (Array.replicate (o :: l).toArray.size false)).contains 0)=true)
  (hB:zS .any (o :: l).toArray 1 n ((Array.replicate (o :: l).toArray.size false).setIfInBounds 0 true)=true)
  (hQ':∀c (v:Value) a w,Q (.panic c) (a.put o.dst v) w->Q (.panic c) a w) (ha:a.put o.dst (a.eval x)=a')
  (h:wpQuiet P (o :: l).toArray (fun w'=>∃p:fo,w'=ext w p) (fun a'=>∀w',(∃p:fo,w'=ext w p)->wpList P (o :: l).toArray Q ((o :: l).drop n) a' w') (((o :: l).take n).drop 1) a'):(Code.region id (o :: l).toArray true).wp P Q a w :=
 lC (C:=fun w'=>∃p:fo,w'=ext w p) x n hm ho hg hB0 hB hQ' (jX ((bj _ w).drew)) TdA
theorem iH{f:FuncId}{args:Array Value}{p:fo}
  (h:Calls P f args (ext w p) fun e w'=>e=.returned v/\Below (ext w p).heap.size (ext w p) w'):Calls P f args (ext w p) fun e w''=>e=.returned v/\∃p:fo,w''=ext w p :=
 h.mono fun _ _ ⟨he,hb⟩=>⟨he,jX (mn (dQ w p) hb)⟩
def ru(w:World)(b off:Nat)(l:List (Int × Int)):Prop :=
 ∀(i:Nat) (p:Int × Int),l[i]?=some p->w.cell? (b,off+i*2)=some (.int .i64 p.1)/\w.cell? (b,off+i*2+1)=some (.int .i64 p.2)
theorem De(l:List α)(k:Nat)(h:k<l.length):∃x,l[k]?=some x:=⟨l[k],lO h⟩
def xo(w:World)(v:Value)(l:List (Int × Int)):Prop :=
 ∃p cap,v=.slice p l.length cap/\l.length<=cap/\cap<=9223372036854775807/\(0<l.length->∃b off,p=some ⟨b,off,none⟩/\b<w.heap.size/\ru w b off l)
def bU:List (Int × Int)->List Value
 |[]=>[]
 |p :: l=>.int .i64 p.1 :: .int .i64 p.2 :: bU l
def bM(w:World)(B:Nat)(v:Value)(l:List (Int × Int)):Prop:=w.ownsRow B 93 2 v l.length (bU l)
theorem gJ(a b:List (Int × Int)):bU (a++b)=bU a++bU b:=by
 induction a with
 |nil=>rfl
 |cons p a ih=>simp[bU,ih]
theorem dx(a:List (Int × Int)):(bU a).length=a.length*2:=by
 induction a with
 |nil=>rfl
 |cons p a ih=>simp[bU,ih];omega
theorem kr(l:List (Int × Int)):∀(i:Nat) (p:Int × Int),l[i]?=some p->(bU l)[i*2]?=some (.int .i64 p.1)/\(bU l)[i*2+1]?=some (.int .i64 p.2):=by
 induction l with
 |nil=>intro i p h;simp at h
 |cons q l ih =>
  intro i p h;cases i with
  |zero=>simp at h;subst h;simp[bU]
  |succ i =>
   have:=ih i p Tdc;rw[show(i+1)*2=i*2+1+1 from by omega];simpa[bU]using this
theorem qI(l:List (Int × Int)):∀u∈bU l,u.oneCell'=true:=by
 induction l with
 |nil=>intro u h;cases h
 |cons p l ih =>
  intro u h;simp[bU]at h;rcases h with rfl|rfl|h
  ·rfl
  ·rfl
  exact ih u h
theorem Tcm{p:Prop}(h:p:=by
 exact⟨none,0,by rw[hn],TcN,TcN,fun h=>absurd h TcN⟩):p:=h
theorem Tc4{p:Prop}(h:p:=by unfold maxLen at hcm;omega):p:=h
theorem bM.rd(h:bM w B v l):xo w v l:=by
 obtain⟨h1,h2⟩:=h;rcases h2 with⟨rfl,hn⟩|⟨g,cap,cur,rfl,hb,hg,vr,hcm,hcs,ht⟩
 ·exact Tcm
 refine⟨some ⟨g,0,none⟩,cap,rfl,vr,Tc4,fun _=>⟨g,0,rfl,(Array.getElem?_eq_some_iff.1 hg).1,fun i p hp=>?_⟩⟩;have hc:=kr l i p hp;have hil:i<l.length:=(List.getElem?_eq_some_iff.1 hp).1;rw[<- ht]at hc;rw[ri TcN,ri TcN]at hc;refine⟨?_,?_⟩
 ·rw[cell_of_row w g (0+i*2) cur _ (0,0) hg,eJ];simpa using hc.1
 rw[cell_of_row w g (0+i*2+1) cur _ (0,0) hg,eJ];simpa using hc.2
theorem ru.below(hb:Below W.heap.size W w){off:Nat}(hbl:b<W.heap.size)(h:ru W b off l):ru w b off l:=fun i p hp=>by
 have:=h i p hp;rw[hb.cell (p:=⟨b,off+i*2,none⟩) hbl,hb.cell (p:=⟨b,off+i*2+1,none⟩) hbl];exact this
theorem Tbm{p:Prop}(h:p:=by
 obtain⟨p,cap,hv,hl,hc,hp⟩:=h;exact⟨p,cap,hv,hl,hc,fun h0=>by obtain⟨b,off,e,hbl,hcc⟩:=hp h0;exact⟨b,off,e,cC hbl hb.size,hcc.below hb hbl⟩⟩):p:=h
theorem xo.below(h:xo W v l)(hb:Below W.heap.size W w):xo w v l:=by
 exact Tbm
theorem Tbd{p:Prop}(h:p:=by
 obtain⟨h1,h2⟩:=h;refine⟨h1,?_⟩;rcases h2 with hn|⟨g,cap,cur,hv,pC,hg,r⟩
 ·exact .inl hn
 exact .inr ⟨g,cap,cur,hv,pC,by rw[hb.block g (Array.getElem?_eq_some_iff.1 hg).1];exact hg,r⟩):p:=h
theorem bM.below(h:bM W B v l)(hb:Below W.heap.size W w):bM w B v l:=by
 exact Tbd
theorem bM.nil(w:World)(B:Nat):bM w B (.slice none 0 0) []:=gS w B _ 2
theorem TcD{p:Prop}(h:p:=by
 rcases h2 with hn|⟨g,cap,cur,hv,pC,r⟩
 ·exact .inl hn
 exact .inr ⟨g,cap,cur,hv,TcN,r⟩):p:=h
theorem Tby{p:Prop}(h:p:=by
 obtain⟨h1,h2⟩:=h;refine⟨h1,?_⟩;exact TcD):p:=h
theorem bM.mono(h:bM w B v l)(hB:B'<=B):bM w B' v l:=by
 exact Tby
theorem xo.nil(w:World):xo w (.slice none 0 0) []:=⟨none,0,rfl,TcO,TcN,fun h=>absurd h TcO⟩
def ig(w:World)(b off:Nat)(l:List Int):Prop:=∀(i:Nat) (n:Int),l[i]?=some n->w.cell? (b,off+i)=some (.int .i64 n)
def Hs(w:World)(v:Value)(l:List Int):Prop :=
 ∃p cap,v=.slice p l.length cap/\l.length<=cap/\cap<=9223372036854775807/\(0<l.length->∃b off,p=some ⟨b,off,none⟩/\b<w.heap.size/\ig w b off l)
def eG(w:World)(B:Nat)(v:Value)(l:List Int):Prop:=w.ownsRow B 3 1 v l.length (l.map (Value.int .i64))
theorem eG.rd{l:List Int}(h:eG w B v l):Hs w v l:=by
 obtain⟨h1,h2⟩:=h;rcases h2 with⟨rfl,hn⟩|⟨g,cap,cur,rfl,hb,hg,vr,hcm,hcs,ht⟩
 ·exact Tcm
 refine⟨some ⟨g,0,none⟩,cap,rfl,vr,Tc4,fun _=>⟨g,0,rfl,(Array.getElem?_eq_some_iff.1 hg).1,fun i p hp=>?_⟩⟩;have hil:i<l.length:=(List.getElem?_eq_some_iff.1 hp).1;have hc:(l.map (Value.int .i64))[i]?=some (Value.int .i64 p):=by simp[hp]
 rw[<- ht,ri TcN]at hc;rw[cell_of_row w g (0+i) cur _ (0,0) hg,eJ];simpa using hc
theorem ig.below(hb:Below W.heap.size W w){off:Nat}{l:List Int}(hbl:b<W.heap.size)(h:ig W b off l):ig w b off l:=fun i p hp=>by
 rw[hb.cell (p:=⟨b,off+i,none⟩) hbl];exact h i p hp
theorem Hs.below{l:List Int}(h:Hs W v l)(hb:Below W.heap.size W w):Hs w v l:=by
 exact Tbm
theorem eG.below{l:List Int}(h:eG W B v l)(hb:Below W.heap.size W w):eG w B v l:=by
 exact Tbd
theorem eG.mono{l:List Int}(h:eG w B v l)(hB:B'<=B):eG w B' v l:=by
 exact Tby
theorem eG.nil(w:World)(B:Nat):eG w B (.slice none 0 0) []:=gS w B _ 1
theorem Hs.nil(w:World):Hs w (.slice none 0 0) []:=⟨none,0,rfl,TcO,TcN,fun h=>absurd h TcO⟩
theorem DT:(prog.info? 93).map (fun i=>(i.zero,i.size,i.bytes))=some (some (.agg #[.int .i64 0,.int .i64 0]),2,16):=by kernel_rfl
theorem tZ:(prog.info? 3).map (fun i=>(i.zero,i.size,i.bytes))=some (some (.int .i64 0),1,8):=by kernel_rfl
theorem TcQ{p:Prop}(h:p:=by decide):p:=h
theorem TcW{p:Prop}(h:p:=by unfold maxLen;omega):p:=h
theorem jg{o:Oper}(hgd:o.guard=none)(s x:Operand)
  (ho:o.op=.call { callee:=.builtin .append,args:=#[s,x],argTypes:=#[65,65] })
  (B:Nat) (v:Value) (l:List (Int × Int)) (p:Int × Int) (hs:a.eval s=v) (hown:bM w B v l) (g c:Nat) (hx:a.eval x=.slice (some g) 1 c)
  (hc1:w.cell? g=some (.int .i64 p.1)) (hc2:w.cell? (Tac g 1)=some (.int .i64 p.2)) (hl:l.length<=100000000) (hB:B<=w.heap.size)
  (h:∀v' w',bM w' B v' (l++[p])->Below B w w'->w.grownBy w' v.ownBlock->wpList prog ops Q rest (a.put o.dst v') w'):wpList prog ops Q (o :: rest) a w:=by
 obtain⟨i0,hi,hz0,hz1,hz2⟩:=gg DT;refine tE w hgd s x 65 ho B 93 i0 _ 2 16 underlying65 hi hz0 hz1 hz2 rfl TcQ v l.length (bU l) hs hown ⟨g,0,none⟩ 1 c (bU [p]) hx rfl (fun j u hu=>?_) (qI _) TcW TcN hB (fun v' w' ho' hg _=>?_)
 ·rw[iz,eJ]
  match j,hu with
  |0,hu=>simp[bU]at hu;rw[<- hu];exact hc1
  |1,hu=>simp[bU]at hu;rw[<- hu];exact hc2
  |j+2,hu=>simp[bU]at hu
 refine h v' w' ?_ ((bj B w).grown hg hB (fun k hk=>(hown.lt k hk).1)) hg;unfold bM;rw[gJ,cD];exact ho'
theorem ve{o:Oper}(hgd:o.guard=none)(s x:Operand)
  (ho:o.op=.call { callee:=.builtin .append,args:=#[s,x],argTypes:=#[22,22] })
  (B:Nat) (v:Value) (l:List Int) (p q:Int) (hs:a.eval s=v) (hown:eG w B v l) (g c:Nat) (hx:a.eval x=.slice (some g) 2 c)
  (hc1:w.cell? g=some (.int .i64 p)) (hc2:w.cell? (Tac g 1)=some (.int .i64 q)) (hl:l.length<=100000000) (hB:B<=w.heap.size)
  (h:∀v' w',eG w' B v' (l++[p,q])->Below B w w'->wpList prog ops Q rest (a.put o.dst v') w'):wpList prog ops Q (o :: rest) a w:=by
 obtain⟨i0,hi,hz0,hz1,hz2⟩:=gg tZ;refine tE w hgd s x 22 ho B 3 i0 _ 1 8 underlying22 hi hz0 hz1 hz2 rfl TcQ v l.length (l.map (Value.int .i64)) hs hown ⟨g,0,none⟩ 2 c [.int .i64 p,.int .i64 q] hx rfl (fun j u hu=>?_) (fun u hu=>by simp at hu;rcases hu with rfl|rfl<;>rfl) TcW TcN hB (fun v' w' ho' hg _=>?_)
 ·rw[iz,eJ]
  match j,hu with
  |0,hu=>simp at hu;rw[<- hu];exact hc1
  |1,hu=>simp at hu;rw[<- hu];exact hc2
  |j+2,hu=>simp at hu
 refine h v' w' ?_ ((bj B w).grown hg hB (fun k hk=>(hown.lt k hk).1));unfold eG;rw[gl,cD];exact ho'
theorem bM.last(h:bM w B v (i++[q])) :
  ∃g cap,v=.slice (some ⟨g,0,none⟩) (i.length+1) cap/\B<=g/\g<w.heap.size/\i.length+1<=cap/\cap<=9223372036854775807 /\
   w.cell? (g,i.length*2)=some (.int .i64 q.1)/\w.cell? (g,i.length*2+1)=some (.int .i64 q.2)/\w.frozen? (g,i.length*2+1)=false /\
   ∀z:Int,bM (w.setCell (g,i.length*2+1) (.int .i64 z)) B v (i++[(q.1,z)]):=by
 have hl:(i++[q]).length=i.length+1:=by simp
 unfold bM at h;rw[hl]at h;rcases h.2 with⟨_,hn⟩|⟨g,cap,cur,rfl,hb,hg,vr,hcm,hcs,ht⟩
 ·omega
 have QE:=kr (i++[q]) i.length q TcO;refine⟨g,cap,rfl,hb,(Array.getElem?_eq_some_iff.1 hg).1,vr,Tc4,?_,?_,h.frozenAt _,fun z=>?_⟩
 ·rw[h.cellAt _ TcN];exact QE.1
 ·rw[h.cellAt _ TcN];exact QE.2
 have h2:=(h.stored (i.length*2+1) (.int .i64 z)).1;unfold bM;rw[show(i++[(q.1,z)]).length=i.length+1 from by simp];have e:(bU (i++[q])).set (i.length*2+1) (.int .i64 z)=bU (i++[(q.1,z)]):=by
  rw[gJ,gJ,List.set_append_right _ _ (by rw[dx];omega),dx,show i.length*2+1-i.length*2=1 from by omega];rfl
 rw[e]at h2;exact h2
theorem bM.setLast{g n cap:Nat}(h:bM w B (.slice (some g) n cap) (i++[q]))(z:Int) :
  bM (w.setCell (g,i.length*2+1) (.int .i64 z)) B (.slice (some g) n cap) (i++[(q.1,z)]):=by
 obtain⟨g',cap',e,_,_,_,_,_,_,_,hst⟩:=h.last;cases e
 exact hst z
theorem aj(l:List α)(k:Nat)(h:k<l.length):∃x,l[k]?=some x:=⟨l[k],lO h⟩
theorem take_snoc'(l:List α)(k:Nat)(x:α)(h:l[k]?=some x):l.take (k+1)=l.take k++[x]:=by
 obtain⟨hk,rfl⟩:=List.getElem?_eq_some_iff.1 h;exact af1 hk
def nT(s l:Int):Bool:=decide (0<=s)&&decide (0<=l)&&decide (s<=1073741824)&&decide (l<=1073741824-s)
def dI(l:List (Int × Int)):Bool:=l.all fun p=>nT p.1 p.2
theorem ai  {o:Nat}  (hb:w'.heap[b]?=w.heap[b]?) (h:w.cell? (b,o)=some v):w'.cell? (b,o)=some v:=(cd (a:=⟨b,o,none⟩) hb).trans h
theorem bK  {o:Nat}  (hb:w'.heap[b]?=w.heap[b]?) (h:w.cell? (b,o+0)=some v):w'.cell? (b,o)=some v:=(cd (a:=⟨b,o,none⟩) hb).trans h
open Go.ChangeShapes Go.WideShapes Go.ChangeAt
variable {H α:Type}{W a w w' w1 w2:World}{n b B i sz bs bb k d nb ki N:Nat}{v nv vv:Value}{p:Addr}{F G ok' X:Nat->Prop}{cs:Array Value}{t:TypeId}{z:Int}{xs:List Value}
theorem Tryz.laidOut:laidOutB prog=true:=by kernel_rfl
theorem lJ{enc:TypeId × Value->H}{W':World}(hb:Below W.heap.size W W'):∀(ts:List TypeId) (vs:List Value) (ds:List (DataW H)) (ps:List MemPlace),
  DataW.TrodAll enc prog W 0 (fun _=>true) true ts vs ds ps->(∀t∈ts,prog.readableRec t=true/\t<prog.types.size)->(∀x∈ps,x.block<W.heap.size) ->
  DataW.TrodAll enc prog W' 0 (fun b=>decide (b<W.heap.size)) true ts vs ds ps
 |[],vs,ds,ps,h,_,_=>by
  obtain⟨rfl,rfl,rfl⟩:=trodAll_nil h;exact trodAll_mk0
 |t :: ts,vs,ds,ps,h,ht,hlt=>by
  obtain⟨v,vs',d,ds',p,q,rfl,rfl,rfl,h1,h2⟩:=trodAll_cons h;obtain⟨ha,hb'⟩:=ht t TcO;exact trodAll_cons_mk (Below.trod Tryz.laidOut ha hb' h1 hb (fun x hx=>hlt x (by simp[hx]))) (lJ hb ts vs' ds' q h2 (fun t' h'=>ht t' (by simp[h'])) (fun x hx=>hlt x (by simp[hx])))
theorem wf_i64{n:Int}(h:(Lit.int .i64 n).wf=true):-9223372036854775808<=n/\n<=9223372036854775807:=by
 have h1:IntKind.i64.min=-9223372036854775808:=rfl;have h2:IntKind.i64.max=9223372036854775807:=rfl;simp[Lit.wf,h1,h2]at h;exact h
theorem TdC{p:Prop}(h:p:=by simpa using h0):p:=h
theorem TcP{p:Prop}(h:p:=by kernel_rfl):p:=h
theorem Fw{enc:TypeId × Value->H}{base:Nat}{d:DataW H}{p:List MemPlace}(hv:Value.okWide prog W .any base 22 v)
  (h:DataW.Trod enc prog W 0 (fun _=>true) true 22 v d p) :
  ∃l,Hs W v l/\∀q∈l,-9223372036854775808<=q/\q<=9223372036854775807:=by
 obtain⟨a0,len0,cap0,rfl⟩:=okWide_slice underlying22 hv;obtain⟨fuel,hf⟩:=h;rcases Go.Deep.open_slice1 underlying22 TcP hf with⟨hcs,_⟩|⟨a,len,cap,m,n,V,D,Pl,hcs,_,hl,hm,ZE,_,hi⟩
 ·simp[Value.cells]at hcs;obtain⟨rfl,rfl,rfl⟩:=hcs;exact⟨[],Hs.nil W,TcO⟩
 simp[Value.cells]at hcs;obtain⟨rfl,rfl,rfl⟩:=hcs;simp only[ej]at ZE;have key:∀i,i<len0->∃q:Int,W.cell? (a.add i)=some (.int .i64 q)/\-9223372036854775808<=q/\q<=9223372036854775807:=fun i hil=>by
  obtain⟨c0,t0⟩:=hi i TcN;obtain⟨x,e0,_,w0⟩:=DataW.trod_int underlying3 t0;simp only[rp,and_true]at e0;rw[e0]at c0;exact⟨x,c0,wf_i64 w0⟩
 obtain⟨q,hq⟩:=Go.Deep.choose_lt key;refine⟨(List.range len0).map q,⟨some a,cap0,TcO,by simpa using hl,by unfold maxLen at hm;omega,fun h0=>?_⟩,fun r hr=>?_⟩
 ·obtain⟨b,off,spot⟩:=a;have h00:=(hq 0 TdC).1;have hs:spot=none:=by simpa[Addr.add]using World.cell?_spot h00
  subst hs;refine⟨b,off,rfl,cP W _ h00,fun i p hp=>?_⟩;have hil:i<len0:=by simpa using(List.getElem?_eq_some_iff.1 hp).1
  have hp':q i=p:=by simpa[hil]using hp
  have hh:=hq i hil;rw[hp',iz]at hh;exact hh.1
 rw[List.mem_map]at hr;obtain⟨i,hi',rfl⟩:=hr;exact(hq i (List.mem_range.1 hi')).2
structure cR(F:Nat->Prop)(w w':World):Prop where
 os:w'.os=w.os
 tape:w'.tape=w.tape
 output:w'.output=w.output
 size:w.heap.size<=w'.heap.size
 block:∀k,k<w.heap.size->¬F k->w'.heap[k]?=w.heap[k]?
theorem cR.refl(F:Nat->Prop)(w:World):cR F w w:=⟨rfl,rfl,rfl,bk _,fun _ _ _=>rfl⟩
theorem cR.trans{b c:World}(h:cR F a b)(k:cR G b c)(hG:∀i,G i->F i\/a.heap.size<=i):cR F a c :=
 ⟨k.os.trans h.os,k.tape.trans h.tape,k.output.trans h.output,cA h.size k.size,fun i hi hF=>(k.block i (cC hi h.size) (fun g=>(hG i g).elim hF TcN)).trans (h.block i hi hF)⟩
theorem cR.of_below{b:World}(h:Below a.heap.size a b):cR F a b:=⟨h.os,h.tape,h.output,h.size,fun i hi _=>h.block i hi⟩
theorem cR.cell(h:cR F w w')(hp:p.block<w.heap.size)(hF:¬F p.block):w'.cell? p=w.cell? p:=cd (w:=w) (h.block p.block hp hF)
theorem TcY{p:Prop}(h:p:=by simp[World.setCell]):p:=h
theorem cR.setCell(h:cR F a w)(hp:F p.block\/a.heap.size<=p.block)(u:Value):cR F a (w.setCell p u) :=
 h.trans (G:=fun k=>k=p.block) ⟨rfl,rfl,rfl,TcY,fun k _ hne=>bw _ _ _ _ hne⟩ (fun i e=>by subst e;exact hp)
theorem cR.drewN(h:cR F a w)(n:Nat):cR F a (w.drewN n):=⟨h.os,h.tape,h.output,h.size,h.block⟩
theorem cR.below(h:cR F w w')(hB:B<=w.heap.size)(hF:∀k,F k->B<=k):Below B w w' :=
 ⟨h.os,h.tape,h.output,h.size,fun k hk=>h.block k TcN (fun f=>by have:=hF k f;omega)⟩
theorem cR.mono(h:cR F w w')(ZF:∀k,F k->G k):cR G w w':=⟨h.os,h.tape,h.output,h.size,fun k hk hn=>h.block k hk (fun f=>hn (ZF k f))⟩
theorem Tec{p:Prop}(h:p:=by simpa using hlt):p:=h
theorem block_setCell{z:Nat × Nat}(u:Value)(h:w.heap[b]?=some (.cells cs t z)):(w.setCell (b,i) u).heap[b]?=some (.cells (cs.setIfInBounds i u) t z):=by
 have hlt:=aq h;have h':w.heap[b]=.cells cs t z:=by simpa[aa0 hlt]using h
 show(w.heap.modify b _)[b]?=_;rw[aa0 Tec,Array.getElem_modify_self,h'];rfl
def Dq(w:World)(b:Nat)(l:List Int)(k:Nat):Prop :=
 ∃p cap,w.heap[b]?=some (.cells #[.slice p l.length cap,.int .i64 k] 46 (0,0))/\k<=l.length/\l.length<=1000/\l.length<=cap/\cap<=9223372036854775807 /\
  (∀x∈l,-9223372036854775808<=x/\x<=9223372036854775807)/\(0<l.length->∃g off,p=some ⟨g,off,none⟩/\g<b/\ig w g off l)
def Src(w:World)(b:Nat):Prop:=∃l k,Dq w b l k
def CZ(lo hi:Int)(b:Nat)(w:World)(e:Ending)(w':World):Prop:=∃v:Int,e=.returned (.int .i64 v)/\lo<=v/\v<=hi/\(∃l k,Dq w' b l k)/\cR (fun i=>i=b) w w'
theorem EB(b k:Nat)(l:List Int)(w:World)(h:Dq w b l k) :
  Calls prog 34 #[.pointer (some b)] w (CZ (-9223372036854775808) 9223372036854775807 b w):=by
 obtain⟨p,cap,hb,hk,hl,hlc,ij,hi,hp⟩:=h;have hc0:=cr hb 0 _ rfl;have hc1:=cr hb 1 _ rfl;have hf1:w.frozen? (Tac b 1)=false:=by simp[World.frozen?,hb]
 have gO:b<w.heap.size:=aq hb;have HB:=aa hb;clear hb;have HP:=aa hp;clear hp;have HI:=aa hi;clear hi;by_cases hlt:k<l.length
 ·obtain⟨g,off,rfl,hgb,hc⟩:=HP.o TcN;have hg:g<w.heap.size:=by omega
  have OH:g≠b:=by omega
  obtain⟨x,hx⟩:=aj l k hlt;have OI:=hc k x hx;have HX:=aa hx;clear hx;have HC:=aa hc;clear hc;have hd:decide (l.length<=k)=false:=by simp;omega
  go_enter func34,ntmps34;go_wp2;go_quiet (fail);go_wp2;go_quiet (fail);go_wp2;go_ret;have QF:=HI.o x (ct HX.o);refine⟨x,rfl,QF.1,QF.2,⟨l,k+1,some ⟨g,off,none⟩,cap,?_,TcN,hl,hlc,ij,HI.o,fun _=>⟨g,off,rfl,hgb,fun i n hn=>?_⟩⟩,?_⟩
  ·exact block_setCell (w:=w.drewN _) (cs:=#[_,.int .i64 (k:Int)]) (i:=1) _ HB.o
  ·exact(cd (w:=w) (bw _ _ _ _ OH)).trans (HC.o i n hn)
  exact(((cR.refl (fun i=>i=b) w).drewN _).setCell (p:=⟨b,1,none⟩) (.inl rfl) _).drewN _
 have hd:decide (l.length<=k)=true:=by simp;omega
 go_enter func34,ntmps34;go_wp2;go_quiet (fail);go_wp2;go_ret;exact⟨0,rfl,TcN,TcN,⟨l,k,p,cap,HB.o,hk,hl,hlc,ij,HI.o,HP.o⟩,(cR.refl _ w).drewN _⟩
theorem bY(b:Nat)(n:Int)(w:World)(hn1:1<=n)(hn2:n<=1000000)(h:Src w b) :
  Calls prog 10 #[.pointer (some b),.int .i64 n] w (CZ 0 (n-1) b w):=by
 obtain⟨l,k,h⟩:=h;go_enter func10,ntmps10
 go_wp2_with fail;refine(EB b k l _ h).mono ?_;rintro e w1 ⟨v,rfl,hv1,hv2,hs,hm⟩;have hm1:=Int.tmod_lt_of_pos v (show 0<n by omega);have hm2:=Int.lt_tmod_of_pos v (show 0<n by omega);go_wp2
 all_goals
  go_ret;refine⟨_,rfl,?_,?_,hs,hm⟩<;>omega
theorem bO(b:Nat)(lo hi:Int)(w:World)(h1:0<=lo)(h2:lo<=hi)(h3:hi<=100000)(h:Src w b) :
  Calls prog 13 #[.pointer (some b),.int .i64 lo,.int .i64 hi] w (CZ lo hi b w):=by
 go_enter func13,ntmps13
 go_wp2_with fail;refine(bY b _ _ TcN TcN h).mono ?_;rintro e w1 ⟨v,rfl,hv1,hv2,hs,hm⟩;go_wp2;go_ret;exact⟨_,rfl,TcN,TcN,hs,hm⟩
def Fy(l:List Int)(b:Nat)(w:World)(e:Ending)(w':World):Prop:=∃v:Int,e=.returned (.int .i64 v)/\v∈l/\Src w' b/\cR (fun i=>i=b) w w'
theorem jD(b g cap:Nat)(l:List Int)(w:World)(h0:0<l.length)(h1:l.length<=1000)(_hc1:l.length<=cap)(_hc2:cap<=9223372036854775807)(hg:g<w.heap.size)(hgb:g≠b)(hc:ig w g 0 l)(h:Src w b) :
  Calls prog 11 #[.pointer (some b),.slice (some g) l.length cap] w (Fy l b w):=by
 have HC:=aa hc;clear hc;go_enter func11,ntmps11
 go_wp2_with fail;refine(bY b _ _ TcN TcN h).mono ?_;rintro e w1 ⟨v,rfl,hv1,hv2,hs,hm⟩;obtain⟨k,rfl⟩:=D4 hv1;obtain⟨x,hx⟩:=aj l k TcN;have OI:w1.cell? (g,k)=some (.int .i64 x):=by
  rw[hm.cell hg hgb];simpa using HC.o k x hx
 have HX:=aa hx;clear hx;have Tt:k<l.length:=by omega
 go_wp2;go_ret;exact⟨x,rfl,ct HX.o,hs,hm⟩
theorem ED(l:List Int)(v:Value)(w:World)(h:Hs w v l)(hl:∀x∈l,-9223372036854775808<=x/\x<=9223372036854775807) :
  Calls prog 5 #[v] w fun e w'=>e=.returned (.pointer (some w.heap.size))/\Src w' w.heap.size/\w.heap.size<w'.heap.size/\Below w.heap.size w w':=by
 obtain⟨p,cap,rfl,hlc,ij,hp⟩:=h;have HP:=aa hp;clear hp;have HL:=aa hl;clear hl;by_cases hlt:1000<l.length
 ·obtain⟨g,off,rfl,hg,hc⟩:=HP.o TcN;have HC:=aa hc;clear hc;have hcc:¬cap=1000:=by omega
  have kB:1000<=cap:=by omega
  go_enter func5,ntmps5;go_wp2;go_ret;refine⟨rfl,⟨l.take 1000,0,some ⟨g,off,none⟩,cap,?_,TcN,TcS,TcS,ij,fun x hx=>HL.o x (tR hx),fun _=>⟨g,off,rfl,hg,fun i n hn=>?_⟩⟩,TcO,?_⟩
  ·rw[b9,ey,Nat.min_eq_left TcN];rfl
  ·have hi:i<1000:=by have:=(List.getElem?_eq_some_iff.1 hn).1;simp at this;omega
   rw[ri hi]at hn;exact(cd (w:=w) (cj _ _ _ hg)).trans (HC.o i n hn)
  exact(bj _ _).alloc (bk _) _
 go_enter func5,ntmps5
 go_wp2;go_ret;refine⟨rfl,⟨l,0,p,cap,?_,TcN,TcN,hlc,ij,HL.o,fun h0=>?_⟩,TcO,?_⟩
 ·rw[b9];rfl
 ·obtain⟨g,off,e,hg,hc⟩:=HP.o h0;exact⟨g,off,e,hg,fun i n hn=>(cd (w:=w) (cj _ _ _ hg)).trans (hc i n hn)⟩
 exact(bj _ _).alloc (bk _) _
theorem Src.keep(h:Src w b)(hk:∀i,i<=b->w'.heap[i]?=w.heap[i]?):Src w' b:=by
 obtain⟨l,k,p,cap,hb,h1,h2,h3,h4,h5,hp⟩:=h;refine⟨l,k,p,cap,(hk b (bk _)).trans hb,h1,h2,h3,h4,h5,fun h0=>?_⟩;obtain⟨g,off,e,hg,hc⟩:=hp h0;exact⟨g,off,e,hg,fun i n hn=>(cd (w:=w) (hk g TcN)).trans (hc i n hn)⟩
theorem Src.lt(h:Src w b):b<w.heap.size:=by
 obtain⟨l,k,p,cap,hb,_⟩:=h;exact aq hb
structure aR where
 vol:Bool
 on:ByteArray
 start:Int
structure aB where
 start:Int
 length:Int
 kind:Int
 Ga:List aR
 chunk:Int
 stale:List Int
 log:ByteArray
 pool:ByteArray
 device:Int
 mode:Int
 done:Int
structure ay where
 name:ByteArray
 id:Int
 hidden:Bool
 ro:Bool
 tags:List ByteArray
 Gf:List aB
structure az where
 name:ByteArray
 id:Int
 first:Int
 Gc:Int
 closed:Bool
 missing:Bool
 tags:List ByteArray
structure af where
 name:ByteArray
 id:Int
 seq:Int
 Gd:Int
 next:Int
 tags:List ByteArray
 Gb:List az
 F9:List ay
 history:List (ByteArray × Int × Int)
abbrev jx(α:Type):=(Nat->Prop)->World->List Value->α->Prop
def oh{α:Type}(V:jx α)(sz:Nat)(ok:Nat->Prop)(w:World)(b off:Nat)(l:List α):Prop :=
 ∀(i:Nat) (x:α),l[i]?=some x->∃u:List Value,u.length=sz/\V ok w u x/\∀(j:Nat) (z:Value),u[j]?=some z->w.cell? (b,off+i*sz+j)=some z
def b6{α:Type}(V:jx α)(sz:Nat):jx (List α):=fun ok w vs l =>
 ∃p cap,vs=[.slice p l.length cap]/\l.length<=cap/\cap<=9223372036854775807/\(0<l.length->∃b off,p=some ⟨b,off,none⟩/\b<w.heap.size/\ok b/\oh V sz ok w b off l)
def cO:jx Int:=fun _ _ vs x=>vs=[.int .i64 x]
def aF:jx ByteArray:=fun _ _ vs x=>vs=[.string x]
def aQ:jx aR:=fun _ _ vs x=>vs=[.bool x.vol,.string x.on,.int .i64 x.start]
def bC:jx aB:=fun ok w vs x=>∃a s,vs=[.int .i64 x.start,.int .i64 x.length,.int .i64 x.kind,a,.int .i64 x.chunk,s,.string x.log,.string x.pool,.int .i64 x.device,.int .i64 x.mode,.int .i64 x.done] /\
 b6 aQ 3 ok w [a] x.Ga/\b6 cO 1 ok w [s] x.stale
def aN:jx ay:=fun ok w vs x=>∃t s,vs=[.string x.name,.int .u64 x.id,.bool x.hidden,.bool x.ro,t,s]/\b6 aF 1 ok w [t] x.tags/\b6 bC 11 ok w [s] x.Gf
def aO:jx az:=fun ok w vs x=>∃t,vs=[.string x.name,.int .u64 x.id,.int .i64 x.first,.int .i64 x.Gc,.bool x.closed,.bool x.missing,t]/\b6 aF 1 ok w [t] x.tags
def lF:jx (ByteArray × Int × Int):=fun _ _ vs x=>vs=[.string x.1,.int .u64 x.2.1,.int .i64 x.2.2]
def EU:jx af:=fun ok w vs x=>∃t d v h,vs=[.string x.name,.int .u64 x.id,.int .i64 x.seq,.int .i64 x.Gd,.int .i64 x.next,t,d,v,h] /\
 b6 aF 1 ok w [t] x.tags/\b6 aO 7 ok w [d] x.Gb/\b6 aN 6 ok w [v] x.F9/\b6 lF 3 ok w [h] x.history
def Mv(ok ok':Nat->Prop)(w w':World):Prop:=w.heap.size<=w'.heap.size/\∀b,b<w.heap.size->ok b->ok' b/\w'.heap[b]?=w.heap[b]?
structure Moves{α:Type}(V:jx α):Prop where
 mv:∀ {ok ok':Nat->Prop} {w w':World} {u:List Value} {x:α},Mv ok ok' w w'->V ok w u x->V ok' w' u x
theorem oh.moves{V:jx α}(hV:Moves V){ok:Nat->Prop}{off:Nat}{l:List α}(hm:Mv ok ok' w w')(hb:b<w.heap.size)(ho:ok b)(h:oh V sz ok w b off l):oh V sz ok' w' b off l:=fun i x hx=>by
 obtain⟨u,hu,hv,hc⟩:=h i x hx;exact⟨u,hu,hV.mv hm hv,fun j z hz=>(cd (w:=w) (hm.2 b hb ho).2).trans (hc j z hz)⟩
theorem b6.moves{V:jx α}(hV:Moves V):Moves (b6 V sz):=⟨fun hm h=>by
 obtain⟨p,cap,e,h1,h2,h3⟩:=h;refine⟨p,cap,e,h1,h2,fun h0=>?_⟩;obtain⟨b,off,ep,hb,ho,hc⟩:=h3 h0;exact⟨b,off,ep,cC hb hm.1,(hm.2 b hb ho).1,hc.moves hV hm hb ho⟩⟩
theorem cO.moves:Moves cO:=⟨fun _ h=>h⟩
theorem aF.moves:Moves aF:=⟨fun _ h=>h⟩
theorem aQ.moves:Moves aQ:=⟨fun _ h=>h⟩
theorem lF.moves:Moves lF:=⟨fun _ h=>h⟩
theorem bC.moves:Moves bC:=⟨fun hm ⟨a,s,e,h1,h2⟩=>⟨a,s,e,(b6.moves aQ.moves).mv hm h1,(b6.moves cO.moves).mv hm h2⟩⟩
theorem aN.moves:Moves aN:=⟨fun hm ⟨t,s,e,h1,h2⟩=>⟨t,s,e,(b6.moves aF.moves).mv hm h1,(b6.moves bC.moves).mv hm h2⟩⟩
theorem aO.moves:Moves aO:=⟨fun hm ⟨t,e,h1⟩=>⟨t,e,(b6.moves aF.moves).mv hm h1⟩⟩
def Flat{α:Type}(V:jx α)(sz:Nat)(ok:Nat->Prop)(w:World):List Value->List α->Prop
 |cs,[]=>cs=[]
 |cs,x :: l=>∃u r,cs=u++r/\u.length=sz/\V ok w u x/\(∀z∈u,z.oneCell'=true)/\Flat V sz ok w r l
def bF{α:Type}(V:jx α)(sz:Nat)(t:TypeId)(B:Nat)(ok:Nat->Prop)(w:World)(v:Value)(l:List α):Prop:=∃cs,w.ownsRow B t sz v l.length cs/\Flat V sz ok w cs l
theorem Flat.moves{V:jx α}(hV:Moves V){ok:Nat->Prop}(hm:Mv ok ok' w w'):∀(l:List α) (cs:List Value),Flat V sz ok w cs l->Flat V sz ok' w' cs l
 |[],_,h=>h
 |_ :: l,_,⟨u,r,e,h1,h2,h3,h4⟩=>⟨u,r,e,h1,hV.mv hm h2,h3,Flat.moves hV hm l r h4⟩
theorem Flat.append{V:jx α}{ok:Nat->Prop}{m:List α}{ds:List Value}(k:Flat V sz ok w ds m):∀(l:List α) (cs:List Value),Flat V sz ok w cs l->Flat V sz ok w (cs++ds) (l++m)
 |[],cs,h=>by
  simp only[Flat]at h;subst h;exact k
 |_ :: l,_,⟨u,r,e,h1,h2,h3,h4⟩=>⟨u,r++ds,by rw[e,cV],h1,h2,h3,Flat.append k l r h4⟩
theorem Flat.one{V:jx α}{ok:Nat->Prop}{u:List Value}{x:α}(h1:u.length=sz)(h2:V ok w u x)(h3:∀z∈u,z.oneCell'=true):Flat V sz ok w u [x]:=⟨u,[],TcO,h1,h2,h3,rfl⟩
theorem Flat.length{V:jx α}{ok:Nat->Prop}:∀(l:List α) (cs:List Value),Flat V sz ok w cs l->cs.length=l.length*sz
 |[],cs,h=>by
  simp only[Flat]at h;simp[h]
 |_ :: l,_,⟨u,r,e,h1,h2,h3,h4⟩=>by
  have:=Flat.length l r h4;rw[e,cD,this,h1,cS,Oy];omega
theorem TdO{p:Prop}(h:p:=by simpa using hx):p:=h
theorem Flat.get{V:jx α}{ok:Nat->Prop}:∀(l:List α) (cs:List Value),Flat V sz ok w cs l->∀(i:Nat) (x:α),l[i]?=some x->∃u:List Value,u.length=sz/\V ok w u x/\∀(j:Nat) (z:Value),u[j]?=some z->cs[i*sz+j]?=some z
 |[],_,_,i,x,hx=>by simp at hx
 |y :: l,cs,⟨u,r,e,h1,h2,h3,h4⟩,i,x,hx=>by
  cases i with
  |zero =>
   simp at hx;subst hx;refine⟨u,h1,h2,fun j z hz=>?_⟩;have hj:=(List.getElem?_eq_some_iff.1 hz).1;rw[e,Nat.zero_mul,eJ,Fo hj];exact hz
  |succ i =>
   obtain⟨u',k1,k2,k3⟩:=Flat.get l r h4 i x TdO;refine⟨u',k1,k2,fun j z hz=>?_⟩;rw[e,Cp (by rw[h1,Oy];omega),h1,show(i+1)*sz+j-sz=i*sz+j from by rw[Oy];omega];exact k3 j z hz
theorem bF.rd{V:jx α}{ok:Nat->Prop}{l:List α}(hV:Moves V)(h:bF V sz t B ok w v l)(_hsz:0<sz)(gw:∀b,b<w.heap.size->ok b->ok' b)(hown:∀b,v.ownBlock=some b->ok' b):b6 V sz ok' w [v] l:=by
 obtain⟨cs,⟨h1,h2⟩,hf⟩:=h;rcases h2 with⟨rfl,hn⟩|⟨g,cap,cur,rfl,hb,hg,vr,hcm,hcs,ht⟩
 ·exact Tcm
 refine⟨some ⟨g,0,none⟩,cap,rfl,vr,Tc4,fun _=>⟨g,0,rfl,(Array.getElem?_eq_some_iff.1 hg).1,hown g rfl,fun i x hx=>?_⟩⟩;have hil:i<l.length:=(List.getElem?_eq_some_iff.1 hx).1;obtain⟨u,k1,k2,k3⟩:=Flat.get l cs hf i x hx;refine⟨u,k1,hV.mv ⟨bk _,fun b hb' ho=>⟨gw b hb' ho,rfl⟩⟩ k2,fun j z hz=>?_⟩;have hc:=k3 j z hz;have hj:=(List.getElem?_eq_some_iff.1 hz).1;have hlt:i*sz+j<l.length*sz:=by
  have:(i+1)*sz<=l.length*sz:=tA _ hil;rw[Oy]at this;omega
 rw[<- ht,ri TcN]at hc;rw[cell_of_row w g (0+i*sz+j) cur _ (0,0) hg,eJ];simpa using hc
def okB(X:Nat->Prop)(bb:Nat)(nv vv:Value):Nat->Prop:=fun b=>bb<b/\nv.ownBlock≠some b/\vv.ownBlock≠some b/\¬X b
def QD(bs bb:Nat)(nv vv:Value):Nat->Prop:=fun k=>k=bs\/k=bb\/nv.ownBlock=some k\/vv.ownBlock=some k
def Fp(hv:Value)(l:List (ByteArray × Int × Int)):Prop:=hv=.slice none 0 0/\l=[]
def TaG(x0:Option Addr)(x1:af)(x2:Value)(x3:Value)(x4:Value)(x5:Value)(x6:Value):Tab #[.pointer x0,.string x1.name,.int .u64 x1.id,.int .i64 x1.seq,.int .i64 x1.Gd,.int .i64 x1.next,x2,x3,x4,x5,x6]:=⟨⟩
structure eW(X:Nat->Prop)(w:World)(bs bb:Nat)(nv vv:Value)(g:af)(next:List Int):Prop where
 src:Src w bs
 lt:bs<bb
 blk:∃tv dv hv,w.heap[bb]?=some (.cells (TaG (some ⟨bs,0,none⟩) g tv dv vv hv nv) 49 (0,0)) /\
  b6 aF 1 (okB X bb nv vv) w [tv] g.tags/\b6 aO 7 (okB X bb nv vv) w [dv] g.Gb/\Fp hv g.history
 ownN:eG w (bb+1) nv next
 ownV:bF aN 6 57 (bb+1) (okB X bb nv vv) w vv g.F9
 ne:∀k,nv.ownBlock=some k->vv.ownBlock≠some k
 xlt:∀k,X k->bb<k/\k<w.heap.size
 xn:∀k,nv.ownBlock=some k->¬X k
 xv:∀k,vv.ownBlock=some k->¬X k
variable {g:af}
theorem eW.Gj{next:List Int}(h:eW X w bs bb nv vv g next):bb<w.heap.size:=by
 obtain⟨tv,dv,hv,e,_⟩:=h.blk;exact aq e
theorem eF(h:w.ownsRow B t sz v n xs)(hk:∀k,B<=k->k<w.heap.size->w'.heap[k]?=w.heap[k]?):w'.ownsRow B t sz v n xs:=by
 obtain⟨h1,h2⟩:=h;refine⟨h1,?_⟩;rcases h2 with hn|⟨g,cap,cur,hv,pC,hg,r⟩
 ·exact .inl hn
 exact .inr ⟨g,cap,cur,hv,pC,by rw[hk g pC (Array.getElem?_eq_some_iff.1 hg).1];exact hg,r⟩
theorem aC(h:w.ownsRow B t sz v n xs)(hk:∀k,v.ownBlock=some k->w'.heap[k]?=w.heap[k]?):w'.ownsRow B t sz v n xs:=by
 obtain⟨h1,h2⟩:=h;refine⟨h1,?_⟩;rcases h2 with hn|⟨g,cap,cur,rfl,pC,hg,r⟩
 ·exact .inl hn
 exact .inr ⟨g,cap,cur,rfl,pC,by rw[hk g rfl];exact hg,r⟩
theorem eW.nLt{next:List Int}(h:eW X w bs bb nv vv g next)(e:nv.ownBlock=some k):bb<k/\k<w.heap.size:=by
 have:=h.ownN.lt k e;omega
theorem eW.vLt{next:List Int}(h:eW X w bs bb nv vv g next)(e:vv.ownBlock=some k):bb<k/\k<w.heap.size:=by
 obtain⟨cs,ho,_⟩:=h.ownV;have:=ho.lt k e;omega
theorem eW.keep{next:List Int}(h:eW X w bs bb nv vv g next)(hs:Src w' bs)(hz:w.heap.size<=w'.heap.size)(hk:∀k,bb<=k->k<w.heap.size->¬X k->w'.heap[k]?=w.heap[k]?):eW X w' bs bb nv vv g next:=by
 have hm:Mv (okB X bb nv vv) (okB X bb nv vv) w w':=⟨hz,fun b hb ho=>⟨ho,hk b (Nat.le_of_lt ho.1) hb ho.2.2.2⟩⟩;refine⟨hs,h.lt,?_,?_,?_,h.ne,fun k hx=>⟨(h.xlt k hx).1,cC (h.xlt k hx).2 hz⟩,h.xn,h.xv⟩
 ·obtain⟨tv,dv,hv,e,h1,h2,h3⟩:=h.blk;exact⟨tv,dv,hv,(hk bb (bk _) h.Gj (fun hx=>Nat.lt_irrefl _ (h.xlt _ hx).1)).trans e,(b6.moves aF.moves).mv hm h1,(b6.moves aO.moves).mv hm h2,h3⟩
 ·exact aC h.ownN fun k e=>hk k (Nat.le_of_lt (h.nLt e).1) (h.nLt e).2 (h.xn k e)
 have mb:=fun k e=>h.vLt (k:=k) e
 obtain⟨cs,ho,hf⟩:=h.ownV;exact⟨cs,aC ho fun k e=>hk k (Nat.le_of_lt (mb k e).1) (mb k e).2 (h.xv k e),Flat.moves aN.moves hm _ _ hf⟩
theorem eW.read{next:List Int}(h:eW X w bs bb nv vv g next)(hs:Src w' bs)(hm:cR (fun i=>i=bs) w w'):eW X w' bs bb nv vv g next :=
 h.keep hs hm.size fun k h1 h2 _=>hm.block k h2 (by have:=h.lt;omega)
theorem Teq{p:Prop}(h:p:=by have:=h.lt;have:=h.Gj;omega):p:=h
theorem eW.below{next:List Int}(h:eW X w bs bb nv vv g next)(hb:Below w.heap.size w w'):eW X w' bs bb nv vv g next :=
 h.keep (h.src.keep fun i hi=>hb.block i Teq) hb.size fun k _ h2 _=>hb.block k h2
theorem Tdo{p:Prop}(h:p:=by have:=ho.1;omega):p:=h
theorem eW.put{next:List Int}(h:eW X w bs bb nv vv g next)(g':af)(hz:w.heap.size<=w'.heap.size)(hk:∀k,k≠bb->k<w.heap.size->w'.heap[k]?=w.heap[k]?)
  (hb:∀tv dv hv,w.heap[bb]?=some (.cells (TaG (some ⟨bs,0,none⟩) g tv dv vv hv nv) 49 (0,0)) ->
   w'.heap[bb]?=some (.cells (TaG (some ⟨bs,0,none⟩) g' tv dv vv hv nv) 49 (0,0)))
  (ht:g'.tags=g.tags) (hd:g'.Gb=g.Gb) (hh:g'.history=g.history) (hv:g'.F9=g.F9):eW X w' bs bb nv vv g' next:=by
 have hm:Mv (okB X bb nv vv) (okB X bb nv vv) w w':=⟨hz,fun b hb ho=>⟨ho,hk b Tdo hb⟩⟩;have hl:=h.lt;have hbl:=h.Gj;refine⟨h.src.keep fun i hi=>hk i TcN TcN,hl,?_,?_,?_,h.ne,fun k hx=>⟨(h.xlt k hx).1,cC (h.xlt k hx).2 hz⟩,h.xn,h.xv⟩
 ·obtain⟨tv,dv,hv,e,h1,h2,h3⟩:=h.blk;exact⟨tv,dv,hv,hb tv dv hv e,by rw[ht];exact(b6.moves aF.moves).mv hm h1,by rw[hd];exact(b6.moves aO.moves).mv hm h2,by rw[hh];exact h3⟩
 ·exact eF h.ownN fun k hk1 hk2=>hk k TcN hk2
 obtain⟨cs,ho,hf⟩:=h.ownV;rw[hv];exact⟨cs,eF ho fun k hk1 hk2=>hk k TcN hk2,Flat.moves aN.moves hm _ _ hf⟩
@[irreducible] def oX (i n:Int):Int:=(i*2862933555777941757+n*3037000493)%18446744073709551616
theorem uO(i n:Int)(w:World)(hn:0<=n)(hn2:n<=1000000000) :
  Calls prog 62 #[.int .u64 i,.int .i64 n] w fun e w'=>e=.returned (.int .u64 (oX i n))/\w'=w:=by
 go_enter func62,ntmps62;go_wp2;go_ret
 have e:IntKind.u64.wrap (IntKind.u64.wrap (i*2862933555777941757)+n*3037000493)=oX i n:=by
  unfold oX;rw[IntKind.wrap_u64,IntKind.wrap_u64];omega
 exact⟨by rw[<- e];rfl,rfl⟩
structure aH(X:Nat->Prop)(bs bb:Nat)(nv vv:Value)(w w':World)(nv' pA:Value)(g':af)(next':List Int):Prop where
 bld:eW X w' bs bb nv' pA g' next'
 mod:cR (QD bs bb nv vv) w w'
 nfr:∀k,nv'.ownBlock=some k->nv.ownBlock=some k\/w.heap.size<=k
 vfr:∀k,pA.ownBlock=some k->vv.ownBlock=some k\/w.heap.size<=k
theorem vS(X:Nat->Prop)(bs bb:Nat)(nv vv:Value)(g:af)(next:List Int)(w:World)(h:eW X w bs bb nv vv g next)(hn:0<=g.next)(hn2:g.next<=100000000) :
  Calls prog 35 #[.pointer (some bb)] w fun e w'=>e=.returned (.int .u64 (oX g.id (g.next+1)))/\aH X bs bb nv vv w w' nv vv { g with next:=g.next+1 } next:=by
 obtain⟨tv,dv,hv,hb,h1,h2,h3⟩:=h.blk;have c1:=cr hb 5 _ rfl;have f1:w.frozen? (Tac bb 5)=false:=by simp[World.frozen?,hb]
 have c2:=cr hb 2 _ rfl;have gO:=h.Gj;have HB:=aa hb;clear hb;go_enter func35,ntmps35
 have hw1:(w.setCell (Tac bb 5) (.int .i64 (g.next+1))).cell? (Tac bb 5)=some (.int .i64 (g.next+1)):=by
  have:=block_setCell (i:=5) (.int .i64 (g.next+1)) HB.o;simp[World.cell?,this]
 have hw2:(w.setCell (Tac bb 5) (.int .i64 (g.next+1))).cell? (Tac bb 2)=some (.int .u64 g.id):=by
  have:=block_setCell (i:=5) (.int .i64 (g.next+1)) HB.o;simp[World.cell?,this]
 go_wp2;generalize hW:w.setCell (Tac bb 5) (.int .i64 (g.next+1))=W at *;have HW:=aa hW;clear hW;go_quiet ((go_at_call 62;exact po (uO _ _ _ TcN TcN)));go_wp2;go_ret;have hW:=HW.o;subst hW;refine⟨rfl,?_,?_,fun k hk=>.inl hk,fun k hk=>.inl hk⟩
 ·exact h.put _ TcY (fun k hk _=>bw _ _ _ _ hk) (fun tv dv hv e=>block_setCell (cs:=#[_,_,_,_,_,_,_,_,_,_,_]) (i:=5) _ e) rfl rfl rfl rfl
 exact((cR.refl (QD bs bb nv vv) w).setCell (p:=⟨bb,5,none⟩) (.inl (.inr (.inl rfl))) _).drewN _
theorem eW.at{next:List Int}(h:eW X w bs bb nv vv g next){D:az}{m:Int}(hd:g.Gb[d]?=some D)(hn:next[d]?=some m) :
  ∃db as3 ir nb ki,w.cell? bb=some (.pointer (some bs))/\w.cell? (Tac bb 7)=some (.slice (some ⟨db,as3,none⟩) g.Gb.length ir)/\nv=.slice (some ⟨nb,0,none⟩) next.length ki/\w.cell? (Tac bb 10)=some (.slice (some ⟨nb,0,none⟩) next.length ki) /\
   w.cell? (nb,d)=some (.int .i64 m)/\w.frozen? (nb,d)=false/\w.cell? (db,as3+d*7)=some (.string D.name)/\w.cell? (db,as3+d*7+3)=some (.int .i64 D.Gc) /\
   g.Gb.length<=ir/\ir<=9223372036854775807/\next.length<=ki/\ki<=9223372036854775807/\bb<nb/\nb<w.heap.size/\bb<db/\db≠nb/\db<w.heap.size/\d<g.Gb.length/\d<next.length:=by
 have CD:d<g.Gb.length:=(List.getElem?_eq_some_iff.1 hd).1;have zr:d<next.length:=(List.getElem?_eq_some_iff.1 hn).1;obtain⟨tv,dv,hv,e,_,h2,_⟩:=h.blk;obtain⟨p,ir,ed,k1,k2,k3⟩:=h2;obtain⟨db,as3,rfl,k4,k5,k6⟩:=k3 TcN;simp only[rp,and_true]at ed;subst ed;obtain⟨u,u1,⟨t,rfl,_⟩,u3⟩:=k6 d D hd;have ho:=h.ownN;have ho2:=ho;rcases ho2.2 with⟨_,hz⟩|⟨nb,ki,cur,rfl,hb,hg,vr,hcm,hcs,ht⟩
 ·omega
 refine⟨db,as3,ir,nb,ki,cr e _ _ rfl,cr e _ _ rfl,rfl,cr e _ _ rfl,?_,ho.frozenAt _,?_,?_,k1,k2,vr,Tc4,TcN,(Array.getElem?_eq_some_iff.1 hg).1,k5.1,?_,k4,CD,zr⟩
 ·have:=ho.cellAt d TcN;rw[this];simp[hn]
 ·simpa using u3 0 _ rfl
 ·simpa using u3 3 _ rfl
 intro e;exact k5.2.1 (by rw[e];rfl)
theorem eW.setNext{next:List Int}(h:eW X w bs bb (.slice (some nb) next.length ki) vv g next)(d:Nat)(z:Int):eW X (w.setCell (nb,d) (.int .i64 z)) bs bb (.slice (some nb) next.length ki) vv g (next.set d z):=by
 have hown:=h.ownN;have sy:bb<nb:=by have:=hown.lt nb rfl;omega
 have hl:=h.lt;have hk:∀k,k≠nb->(w.setCell (nb,d) (.int .i64 z)).heap[k]?=w.heap[k]?:=fun k hk=>bw _ _ _ _ hk;have hz:w.heap.size<=(w.setCell (nb,d) (.int .i64 z)).heap.size:=by simp[World.setCell]
 have hm:Mv (okB X bb (.slice (some nb) next.length ki) vv) (okB X bb (.slice (some nb) next.length ki) vv) w (w.setCell (nb,d) (.int .i64 z)):=⟨hz,fun b _ ho=>⟨ho,hk b (fun e=>ho.2.1 (by rw[e];rfl))⟩⟩;refine⟨h.src.keep fun i hi=>hk i TcN,hl,?_,?_,?_,h.ne,fun k hx=>⟨(h.xlt k hx).1,cC (h.xlt k hx).2 hz⟩,h.xn,h.xv⟩
 ·obtain⟨tv,dv,hv,e,h1,h2,h3⟩:=h.blk;exact⟨tv,dv,hv,(hk bb TcN).trans e,(b6.moves aF.moves).mv hm h1,(b6.moves aO.moves).mv hm h2,h3⟩
 ·have h2:=(hown.stored d (.int .i64 z)).1;unfold eG;rw[List.length_set,List.map_set];exact h2
 obtain⟨cs,ho,hf⟩:=h.ownV;refine⟨cs,?_,Flat.moves aN.moves hm _ _ hf⟩;exact ownsRow_setCell_other ho (fun e=>h.ne nb rfl e) _
theorem eW.readPost{next:List Int}(h:eW X w bs bb nv vv g next)(hs:Src w' bs)(hm:cR (fun i=>i=bs) w w'):aH X bs bb nv vv w w' nv vv g next :=
 ⟨h.read hs hm,hm.mono (fun _ hk=>.inl hk),fun _ hk=>.inl hk,fun _ hk=>.inl hk⟩
theorem fu{o:Nat}(hb:b<w.heap.size)(h:w.cell? (b,o)=some v):((w.drewN N).alloc (.cells cs t)).cell? (b,o)=some v :=
 (cd (w:=w) (cj (w.drewN N) _ _ hb)).trans h
theorem Jl :((w.drewN N).alloc (.cells cs t)).frozen? (w.heap.size,i)=false:=by
 have h:((w.drewN N).alloc (.cells cs t)).heap[w.heap.size]?=some (.cells cs t (0,0)):=b9 (w.drewN N) _;unfold World.frozen?;simp only[h];simp
theorem mD{b:World}{u:Value}(h:a.heap[p.block]?=b.heap[p.block]?):(a.setCell p u).heap[p.block]?=(b.setCell p u).heap[p.block]?:=by
 simp only[World.setCell,BW,ej];rw[h]
theorem cR.alloc(h:cR F a w)(o:Obj):cR F a (w.alloc o) :=
 h.trans (G:=fun _=>False) (cR.of_below ((bj _ _).alloc (bk _) _)) (fun _ f=>f.elim)
theorem eW.nextPost{next:List Int}(h:eW X w bs bb (.slice (some nb) next.length ki) vv g next)(hs:Src w1 bs)(hm:cR (fun i=>i=bs) w w1)
  (h2:cR (fun k=>w.heap.size<=k) (w1.setCell (nb,d) (.int .i64 z)) w2):aH X bs bb (.slice (some nb) next.length ki) vv w w2 (.slice (some nb) next.length ki) vv g (next.set d z):=by
 have hown:=h.ownN;have sy:bb<nb/\nb<w.heap.size:=by have:=hown.lt nb rfl;omega
 have hl:=h.lt;have hz1:(w1.setCell (nb,d) (.int .i64 z)).heap.size=w1.heap.size:=by simp[World.setCell]
 have hz:=hm.size;have k2:∀k,k<w.heap.size->w2.heap[k]?=(w1.setCell (nb,d) (.int .i64 z)).heap[k]?:=fun k hk=>h2.block k TcN TcN;refine⟨(h.setNext d z).keep ?_ ?_ ?_,?_,fun _ hk=>.inl hk,fun _ hk=>.inl hk⟩
 ·exact hs.keep fun i hi=>(k2 i TcN).trans (bw _ _ _ _ TcS)
 ·have:=h2.size;simp[World.setCell]at this ⊢;omega
 ·intro k h3 h4 _;have h4':k<w.heap.size:=by simpa[World.setCell]using h4
  rw[k2 k h4'];by_cases e:k=nb
  ·subst e;exact mD (p:=⟨k,d,none⟩) (hm.block k h4' TcN)
  rw[bw _ _ _ _ e,bw _ _ _ _ e];exact hm.block k h4' TcN
 exact((hm.mono (fun _ hk=>.inl hk)).setCell (p:=⟨nb,d,none⟩) (.inl (.inr (.inr (.inl rfl)))) _).trans h2 (fun i hi=>.inr hi)
theorem eW.readPost'{next:List Int}(h:eW X w bs bb nv vv g next)(hs:Src w' bs)(hm:cR (fun i=>i=bs) w w'):aH X bs bb nv vv w w' nv vv g next/\w'.heap[bb]?=w.heap[bb]? :=
 ⟨h.readPost hs hm,hm.block bb h.Gj (by have:=h.lt;omega)⟩
theorem eW.nextPost'{next:List Int}(h:eW X w bs bb (.slice (some nb) next.length ki) vv g next)(hs:Src w1 bs)(hm:cR (fun i=>i=bs) w w1)
  (h2:cR (fun k=>w.heap.size<=k) (w1.setCell (nb,d) (.int .i64 z)) w2):aH X bs bb (.slice (some nb) next.length ki) vv w w2 (.slice (some nb) next.length ki) vv g (next.set d z)/\w2.heap[bb]?=w.heap[bb]?:=by
 have hbl:=h.Gj;have hlt:=h.lt;have sy:bb<nb:=by have:=h.ownN.lt nb rfl;omega
 have hz:=hm.size;refine⟨h.nextPost hs hm h2,?_⟩;rw[h2.block bb (by simp[World.setCell];omega) TcN,bw _ _ _ _ (show bb≠nb by omega)];exact hm.block bb hbl TcN
def Tas(x0:ByteArray)(x1:Int):Tab #[.bool false,.string x0,.int .i64 x1]:=⟨⟩
def Taq :Tab #[.bool false,.string ⟨#[]⟩,.int .i64 0]:=⟨⟩
def FC(X:Nat->Prop)(bs bb:Nat)(nv vv:Value)(g:af)(next:List Int)(d:Nat)(D:az)(m n:Int)(w:World)(e:Ending)(w':World):Prop :=
 (e=.returned (.tuple #[.agg Taq,.bool false])/\aH X bs bb nv vv w w' nv vv g next/\w'.heap[bb]?=w.heap[bb]?) \/
 ∃s:Int,m<=s/\s+n<=D.Gc/\e=.returned (.tuple #[.agg (Tas D.name s),.bool true])/\aH X bs bb nv vv w w' nv vv g (next.set d (s+n))/\w'.heap[bb]?=w.heap[bb]?
theorem Tbi{p:Prop}(h:p:=by
 rw[<- HW.o,<- HW2.o];have:=M1.size;exact(((((M1.drewN _).drewN _).alloc _).setCell (.inr TcS) _).setCell (.inr TcS) _).setCell (.inr TcS) _):p:=h
theorem Tbp{p:Prop}(h:p:=by
 rw[<- hW];exact block_setCell (cs:=#[_,_,_]) (i:=2) _ (block_setCell (cs:=#[_,_,_]) (i:=1) _ (block_setCell (cs:=#[_,_,_]) (i:=0) _ (b9 (W2.drewN _) _)))):p:=h
theorem TbE{p:Prop}(h:p:=by
 rw[<- hW,bw _ _ _ _ TcS,bw _ _ _ _ TcS,bw _ _ _ _ TcS,cj _ _ _ TcS,<- HW2.o];rfl):p:=h
theorem TeM{p:Prop}(h:p:=by simp[results,Tryz.results36,go_sem,p0,p1,p2]):p:=h
theorem qR(X:Nat->Prop)(bs bb:Nat)(nv vv:Value)(g:af)(next:List Int)(w:World)(h:eW X w bs bb nv vv g next)(d:Nat)(D:az)(m n:Int)(hd:g.Gb[d]?=some D)(hn:next[d]?=some m)
  (hm0:0<=m) (hm1:m<=1000000) (hn0:0<=n) (hn1:n<=1000000) :
  Calls prog 36 #[.pointer (some bb),.int .i64 d,.int .i64 n] w (FC X bs bb nv vv g next d D m n w):=by
 have HD:=aa hd;clear hd;have HN:=aa hn;clear hn;have hbl:=h.Gj;have hlt:=h.lt;have c0:w.cell? bb=some (.pointer (some bs)):=by
  obtain⟨_,_,_,_,_,c,_⟩:=h.at HD.o HN.o;exact c
 go_enter func36,ntmps36
 go_wp2_with fail;refine(bY bs _ _ TcN TcN (h.below ((bj _ _).alloc (bk _) _)).src).mono ?_;rintro e w1 ⟨v,rfl,hv1,hv2,hs,oY⟩;have B1:=(h.below ((bj _ _).alloc (bk _) _)).read hs oY;have hR:w1.heap[w.heap.size]?=some (.cells Taq 83 (0,0)):=by
  rw[oY.block _ TcO TcN,b9]
 obtain⟨r0,r1,r2⟩:=sv3 (cr hR);have r3:=sr hR;have hsz:w.heap.size<w1.heap.size:=aq hR;have HR:=aa hR;clear hR;have M1:cR (fun i=>i=bs) w w1:=((cR.of_below ((bj _ _).alloc (bk _) _)).trans oY (fun i hi=>.inl hi));obtain⟨db,as3,ir,nb,ki,c0,c7,rfl,c10,cn,cf,NP,cd3,l1,l2,l3,l4,l5,l6,l7,l8,l9,l10,l11⟩:=B1.at HD.o HN.o;clear oY hs;have hv3:0<=v/2:=by omega
 have hv4:v/2<=1:=by omega
 by_cases k1:D.Gc<m+n
 ·have k2:D.Gc<m+v/2+n:=by omega
  go_wp2;go_quiet (fail);go_wp2;go_quiet (fail);go_wp2;refine eC (v:=.tuple #[.agg Taq,.bool false]) (by simp[results,Tryz.results36,go_sem,r0,r1,r2]) rfl (.inl ⟨rfl,?_⟩);refine h.readPost' (B1.src.keep fun i hi=>?_) ((((M1.drewN _).setCell (p:=w.heap.size) (.inr (bk _)) _).setCell (p:=⟨w.heap.size,1,none⟩) (.inr (bk _)) _).setCell (p:=⟨w.heap.size,2,none⟩) (.inr (bk _)) _);rw[bw _ _ _ _ TcS,bw _ _ _ _ TcS,bw _ _ _ _ TcS];rfl
 have k2:¬D.Gc<m+n:=k1;by_cases k3:D.Gc<m+v/2+n
 ·go_wp2;go_quiet (fail);go_wp2;go_quiet (fail);go_wp2;generalize hW2:w1.drewN _=W2;have e2:∀p,W2.cell? p=w1.cell? p:=fun p=>by rw[<- hW2];rfl
  have d7:=(e2 _).trans c7;have d10:=(e2 _).trans c10;have dn:=(e2 _).trans cn;have dd:=(e2 _).trans NP;have s2:W2.heap.size=w1.heap.size:=by rw[<- hW2];rfl
  have z1:db<W2.heap.size:=by omega
  have z2:nb<W2.heap.size:=by omega
  have z3:bb<W2.heap.size:=by omega
  have y7:=fun N cs t=>fu (N:=N) (cs:=cs) (t:=t) z3 d7;have y10:=fun N cs t=>fu (N:=N) (cs:=cs) (t:=t) z3 d10;have yn:=fun N cs t=>fu (N:=N) (cs:=cs) (t:=t) z2 dn;have yd:=fun N cs t=>fu (N:=N) (cs:=cs) (t:=t) z1 dd;have a0:∀N (u v x:Value) (t:TypeId),((W2.drewN N).alloc (.cells #[u,v,x] t)).cell? W2.heap.size=some u:=fun N u v x t=>aD rfl rfl;have a1:∀N (u v x:Value) (t:TypeId),((W2.drewN N).alloc (.cells #[u,v,x] t)).cell? (Tac W2.heap.size 1)=some v:=fun N u v x t=>aD rfl rfl;have a2:∀N (u v x:Value) (t:TypeId),((W2.drewN N).alloc (.cells #[u,v,x] t)).cell? (Tac W2.heap.size 2)=some x:=fun N u v x t=>aD rfl rfl;have a3:∀N (i:Nat) (cs:Array Value) (t:TypeId),((W2.drewN N).alloc (.cells cs t)).frozen? ⟨W2.heap.size,i,none⟩=false:=fun N i cs t=>Jl;have E2:=aa e2;clear e2;have S2:=aa s2;clear s2;have HW2:=aa hW2;clear hW2
  go_region
  clear y7 y10 yn yd;generalize hW:World.setCell (World.setCell (World.setCell (World.alloc (World.drewN W2 _) _) _ _) _ _) _ _=W6;have S:W2.heap.size=w1.heap.size:=S2.o;have hk6:∀k,k<w1.heap.size->W6.heap[k]?=w1.heap[k]?:=fun k hk=>by
   exact TbE
  have hn6:W6.heap[W2.heap.size]?=some (.cells (Tas D.name m) 83 (0,0)):=by
   exact Tbp
  have q10:W6.cell? (Tac bb 10)=_:=(cd (w:=w1) (hk6 bb TcN)).trans c10;have qn:W6.cell? (nb,d)=_:=(cd (w:=w1) (hk6 nb TcN)).trans cn;have qf:W6.frozen? (nb,d)=_:=(rh (w:=w1) (hk6 nb TcN)).trans cf;obtain⟨n0,n1,n2⟩:=sv3 (cr hn6);have R6:=(hk6 w.heap.size TcN).trans HR.o;obtain⟨p0,p1,p2⟩:=sv3 (cr R6);have p3:=sr R6;have x1:nb≠W2.heap.size:=by omega
  have x2:nb≠w.heap.size:=by have:=h.ownN.lt nb rfl;omega
  have x3:w.heap.size≠W2.heap.size:=by omega
  have K6:=aa hk6;clear hk6;have N6:=aa hn6;clear hn6;have ZG:=aa R6;clear R6;have HW:=aa hW;clear hW;have HS:=aa S;clear S;clear a0 a1 a2 a3;go_wp2;refine eC (v:=.tuple #[.agg (Tas D.name m),.bool true]) TeM rfl (.inr ⟨m,TcN,TcN,rfl,?_⟩);have M6:cR (fun i=>i=bs) w W6:=by
   exact Tbi
  refine h.nextPost' (w1:=W6) (B1.src.keep fun i hi=>K6.o i TcN) M6 ?_;exact((((cR.refl (fun k=>w.heap.size<=k) (W6.setCell (nb,d) (.int .i64 (m+n)))).setCell (p:=w.heap.size) (.inl (bk _)) _).setCell (p:=⟨w.heap.size,1,none⟩) (.inl (bk _)) _).setCell (p:=⟨w.heap.size,2,none⟩) (.inl (bk _)) _)
 go_wp2;go_quiet (fail);go_wp2;go_quiet (fail);go_wp2;generalize hW2:w1.drewN _=W2;have e2:∀p,W2.cell? p=w1.cell? p:=fun p=>by rw[<- hW2];rfl
 have d7:=(e2 _).trans c7;have d10:=(e2 _).trans c10;have dn:=(e2 _).trans cn;have dd:=(e2 _).trans NP;have s2:W2.heap.size=w1.heap.size:=by rw[<- hW2];rfl
 have z1:db<W2.heap.size:=by omega
 have z2:nb<W2.heap.size:=by omega
 have z3:bb<W2.heap.size:=by omega
 have y7:=fun N cs t=>fu (N:=N) (cs:=cs) (t:=t) z3 d7;have y10:=fun N cs t=>fu (N:=N) (cs:=cs) (t:=t) z3 d10;have yn:=fun N cs t=>fu (N:=N) (cs:=cs) (t:=t) z2 dn;have yd:=fun N cs t=>fu (N:=N) (cs:=cs) (t:=t) z1 dd;have a0:∀N (u v x:Value) (t:TypeId),((W2.drewN N).alloc (.cells #[u,v,x] t)).cell? W2.heap.size=some u:=fun N u v x t=>aD rfl rfl;have a1:∀N (u v x:Value) (t:TypeId),((W2.drewN N).alloc (.cells #[u,v,x] t)).cell? (Tac W2.heap.size 1)=some v:=fun N u v x t=>aD rfl rfl;have a2:∀N (u v x:Value) (t:TypeId),((W2.drewN N).alloc (.cells #[u,v,x] t)).cell? (Tac W2.heap.size 2)=some x:=fun N u v x t=>aD rfl rfl;have a3:∀N (i:Nat) (cs:Array Value) (t:TypeId),((W2.drewN N).alloc (.cells cs t)).frozen? ⟨W2.heap.size,i,none⟩=false:=fun N i cs t=>Jl;have E2:=aa e2;clear e2;have S2:=aa s2;clear s2;have HW2:=aa hW2;clear hW2
 go_region
 clear y7 y10 yn yd;generalize hW:World.setCell (World.setCell (World.setCell (World.alloc (World.drewN W2 _) _) _ _) _ _) _ _=W6;have S:W2.heap.size=w1.heap.size:=S2.o;have hk6:∀k,k<w1.heap.size->W6.heap[k]?=w1.heap[k]?:=fun k hk=>by
  exact TbE
 have hn6:W6.heap[W2.heap.size]?=some (.cells (Tas D.name (m+v/2)) 83 (0,0)):=by
  exact Tbp
 have q10:W6.cell? (Tac bb 10)=_:=(cd (w:=w1) (hk6 bb TcN)).trans c10;have qn:W6.cell? (nb,d)=_:=(cd (w:=w1) (hk6 nb TcN)).trans cn;have qf:W6.frozen? (nb,d)=_:=(rh (w:=w1) (hk6 nb TcN)).trans cf;obtain⟨n0,n1,n2⟩:=sv3 (cr hn6);have R6:=(hk6 w.heap.size TcN).trans HR.o;obtain⟨p0,p1,p2⟩:=sv3 (cr R6);have p3:=sr R6;have x1:nb≠W2.heap.size:=by omega
 have x2:nb≠w.heap.size:=by have:=h.ownN.lt nb rfl;omega
 have x3:w.heap.size≠W2.heap.size:=by omega
 have K6:=aa hk6;clear hk6;have N6:=aa hn6;clear hn6;have ZG:=aa R6;clear R6;have HW:=aa hW;clear hW;have HS:=aa S;clear S;clear a0 a1 a2 a3;go_wp2;refine eC (v:=.tuple #[.agg (Tas D.name (m+v/2)),.bool true]) TeM rfl (.inr ⟨m+v/2,TcN,TcN,rfl,?_⟩);have M6:cR (fun i=>i=bs) w W6:=by
  exact Tbi
 rw[show m+v/2+n=m+(v/2+n) from by omega];refine h.nextPost' (w1:=W6) (B1.src.keep fun i hi=>K6.o i TcN) M6 ?_;exact((((cR.refl (fun k=>w.heap.size<=k) (W6.setCell (nb,d) (.int .i64 (m+(v/2+n))))).setCell (p:=w.heap.size) (.inl (bk _)) _).setCell (p:=⟨w.heap.size,1,none⟩) (.inl (bk _)) _).setCell (p:=⟨w.heap.size,2,none⟩) (.inl (bk _)) _)
end Go.Proofs.YtillcmhjhajimaaGreatDoor
