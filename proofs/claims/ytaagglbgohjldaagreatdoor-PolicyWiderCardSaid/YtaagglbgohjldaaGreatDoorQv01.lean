/- Lemmas: Reg, Base, Glue. -/
import Derived.Test.YtaagglbgohjldaaGreatDoorRows
import Derived.StillTail
import Derived.BigQuiet
import Derived.WalkKit
import Derived.Lib.Hide
import Derived.ProofKit
import Derived.Deep.SlicePairs
import Derived.OpenShut
set_option maxRecDepth 100000
set_option maxHeartbeats 32000000
set_option linter.all false
namespace Go.Proofs.YtaagglbgohjldaaGreatDoor
open Go.Proofs.Tryz
structure Taa {α:Type _}(a:α):Type where
instance {α:Type _}{a:α}:CoeHead (Taa a) α:=⟨fun _=>a⟩
instance {p:Prop}:CoeSort (Taa p) Prop:=⟨fun _=>p⟩
abbrev Tab:=@Taa (Array Value)
instance:Coe Nat Addr:=⟨fun b=>⟨b,0,none⟩⟩
instance {b i}:CoeDep (Nat×Nat) (b,i) Addr:=⟨⟨b,i,none⟩⟩
def Tac (b i:Nat):Taa (⟨b,i,none⟩:Addr):=⟨⟩
variable {W w w':World}{b k:Nat}{l:List Value}{t:TypeId}{a0 a1 a2 a3 a4 a5 a6 a7 a8 a9 a10:Value}{P:Nat->Value->Prop}
abbrev cd:=@Go.World.cell?_of_block
abbrev bw:=@Go.RowKit.Below.heap_setCell
abbrev aq:=@Go.lt_of_block
abbrev b9:=@Go.heap_alloc_new
abbrev ct:=@List.mem_of_getElem?
abbrev bj:=@Go.RowKit.Below.refl
abbrev bk:=@Nat.le_refl
abbrev cj:=@Go.RowKit.Below.heap_alloc
abbrev cD:=@List.length_append
abbrev cq:=@List.foldl_nil
abbrev cP:=@Go.World.block_lt_of_cell?
abbrev cC:=@Nat.lt_of_lt_of_le
abbrev cG:=@List.mem_cons_self
abbrev cg:=@Nat.zero_le
abbrev cQ:=@List.drop_succ_cons
abbrev cF:=@List.foldl_cons
abbrev cI:=@List.take_length
abbrev aw:=@if_pos
abbrev cN:=@decide_eq_false
abbrev bh:=@if_neg
abbrev cA:=@Nat.le_trans
abbrev cS:=@List.length_cons
abbrev cL:=@List.drop_zero
abbrev cV:=@List.append_assoc
abbrev cW:=@Go.World.size_alloc
abbrev eV:=@List.mem_of_find?_eq_some
abbrev fX:=@List.eq_nil_of_length_eq_zero
abbrev cY:=@List.not_mem_nil
abbrev eh:=@Bool.and_eq_true
abbrev ey:=@List.length_take
abbrev dy:=@Go.IntWalk.i64_in
abbrev fc:=@List.getElem?_of_mem
abbrev dr:=@List.mem_cons
abbrev eA:=@decide_eq_true
abbrev eL:=@List.all_eq_true
abbrev dT:=@Go.RowKit.Below.alloc
abbrev fk:=@decide_eq_true_eq
abbrev fh:=@Go.World.ownsRow.lt
abbrev eM:=@List.append_nil
abbrev ee:=@Go.RowKit.Below.drew
abbrev cy:=@Go.info_parts
abbrev eC:=@Go.bodyPost_ret
abbrev jz:=@List.take_of_length_le
abbrev lO:=@List.getElem?_eq_getElem
abbrev ju:=@List.mem_append_left
abbrev eJ:=@Nat.zero_add
abbrev fW:=@List.length_map
abbrev gS:=@Go.World.ownsRow_nil
abbrev gl:=@List.map_append
abbrev kn:=@List.mem_cons_of_mem
abbrev Ox:=@List.length_nil
abbrev fg:=@Nat.add_zero
abbrev dg:=@or_false
abbrev gj:=@Option.some.inj
abbrev ri:=@List.getElem?_take_of_lt
abbrev fp:=@Nat.mul_one
abbrev tB:=@List.drop_eq_getElem_cons
abbrev rh:=@Go.World.frozen?_of_block
abbrev lr:=@List.all_eq_false
abbrev iv:=@List.take_zero
abbrev fR:=@Go.wpQuiet_nil
abbrev lB:=@List.flatMap_cons
abbrev fN:=@Go.RowKit.Below.grown
abbrev rk:=@List.take_append_drop
abbrev po:=@Go.Calls.quiet_of_same
abbrev xT:=@List.setIfInBounds_toArray
abbrev iu:=@List.map_cons
abbrev pk:=@List.getElem?_drop
abbrev ej:=@if_true
abbrev pj:=@Bool.false_eq_true
abbrev lz:=@Int.ediv_nonneg
abbrev nh:=@List.any_eq_true
abbrev mS:=@Int.ediv_le_self
abbrev tk:=@List.length_filter_le
abbrev iz:=@Go.Addr.add_lit
abbrev Cp:=@List.getElem?_append_right
abbrev tA:=@Nat.mul_le_mul_right
abbrev CC:=@Int.tdiv_eq_ediv_of_nonneg
abbrev rr:=@Nat.lt_of_le_of_lt
abbrev mN:=@Bool.eq_iff_iff
abbrev km:=@List.drop_nil
abbrev xp:=@Array.getElem?_eq_none
abbrev aa0:=@Array.getElem?_eq_getElem
abbrev xj:=@List.getElem?_eq_none
abbrev rB:=@List.drop_length
abbrev nj:=@Bool.false_or
abbrev ix:=@Go.ready_mono
abbrev tz:=@Bool.not_eq_true'
abbrev tD:=@List.find?_append
abbrev xi:=@List.take_succ_cons
abbrev xt:=@List.flatMap_append
abbrev rj:=@List.any_append
abbrev Fo:=@List.getElem?_append_left
abbrev P9:=@List.mem_append_right
abbrev CA:=@ByteArray.size_append
abbrev xF:=@List.getElem?_take
abbrev FA:=@Array.setIfInBounds_comm
abbrev ly:=@Go.getD_set_ne
abbrev XS:=@Go.Region.noSelect_spec
abbrev tR:=@List.mem_of_mem_take
abbrev Oy:=@Nat.add_mul
abbrev tP:=@List.pairwise_append
abbrev rI:=@List.getElem?_map
abbrev oT:=@List.mem_append
abbrev fj:=@congrArg
abbrev oA:=@Int.mul_nonneg
abbrev tM:=@List.mem_replicate
abbrev BW:=@Array.getElem?_modify
abbrev A4:=@List.length_singleton
abbrev rp:=@List.cons.injEq
abbrev mm:=@Nat.lt_or_ge
abbrev A5:=@Go.Region.waitsFor_spec
abbrev tE:=@Go.wpList_append_own
abbrev af1:=@List.take_succ_eq_append_getElem
abbrev ud:=@Go.Result.andThen_ok
abbrev fY:=@if_false
abbrev A6:=@Go.ByteArray.toList_eq
abbrev D4:=@Int.eq_ofNat_of_zero_le
abbrev tS:=@List.map_toArray
abbrev E1:=@List.filter_cons_of_pos
abbrev ae7:=@List.filter_cons_of_neg
abbrev tI:=@Go.Fence.wide_round
abbrev ur:=@List.mem_flatMap
abbrev B0:=@Nat.eq_or_lt_of_le
abbrev oB:=@getElem!_pos
abbrev kt:=@Go.RowKit.Below.mono
abbrev tG:=@Bool.or_eq_true
abbrev ub:=@Go.Oper.semAt_none
abbrev DO:=@List.length_mergeSort
abbrev E0:=@List.filterMap_append
abbrev A0:=@List.filter_congr
abbrev Bk:=@List.ext_getElem?
abbrev ue:=@Nat.mul_le_mul
abbrev tW:=@Int.mul_le_mul
abbrev tU:=@Go.run_underlying
theorem _root_.Go.RowKit.Hid.o {p:Prop} (h:Go.RowKit.Hid p):p:=h.out
theorem Tcm {p:Prop}(h:p:=by
 simp only [World.cell?,h];simpa using hz):p:=h
theorem cr     {q:Nat × Nat} (h:W.heap[b]?=some (.cells l.toArray t q)) (i:Nat) (z:Value) (hz:l[i]?=some z):W.cell? (b,i)=some z:=by
 exact Tcm
theorem sr   {l:Array Value}  (h:W.heap[b]?=some (.cells l t (0,0))) (i:Nat):W.frozen? (b,i)=false:=by simp [World.frozen?,h]
theorem sw2     (e:w'.heap[b]?=w.heap[b]?) (h:∀ (i:Nat) (z:Value),(a0::a1::l)[i]?=some z->w.cell? (b,k+i)=some z):w'.cell? (b,k)=some a0/\w'.cell? (b,k+1)=some a1:=⟨(cd (a:=⟨b,k+0,none⟩) e).trans (h 0 _ rfl),(cd (a:=⟨b,k+1,none⟩) e).trans (h 1 _ rfl)⟩
theorem Mn     (e:w'.heap[b]?=w.heap[b]?) (h:∀ (i:Nat) (z:Value),(a0::a1::a2::l)[i]?=some z->w.cell? (b,k+i)=some z):w'.cell? (b,k)=some a0/\w'.cell? (b,k+1)=some a1/\w'.cell? (b,k+2)=some a2:=⟨(cd (a:=⟨b,k+0,none⟩) e).trans (h 0 _ rfl),(cd (a:=⟨b,k+1,none⟩) e).trans (h 1 _ rfl),(cd (a:=⟨b,k+2,none⟩) e).trans (h 2 _ rfl)⟩
theorem NG     (e:w'.heap[b]?=w.heap[b]?) (h:∀ (i:Nat) (z:Value),(a0::a1::a2::a3::a4::a5::l)[i]?=some z->w.cell? (b,k+i)=some z):w'.cell? (b,k)=some a0/\w'.cell? (b,k+1)=some a1/\w'.cell? (b,k+2)=some a2/\w'.cell? (b,k+3)=some a3/\w'.cell? (b,k+4)=some a4/\w'.cell? (b,k+5)=some a5:=⟨(cd (a:=⟨b,k+0,none⟩) e).trans (h 0 _ rfl),(cd (a:=⟨b,k+1,none⟩) e).trans (h 1 _ rfl),(cd (a:=⟨b,k+2,none⟩) e).trans (h 2 _ rfl),(cd (a:=⟨b,k+3,none⟩) e).trans (h 3 _ rfl),(cd (a:=⟨b,k+4,none⟩) e).trans (h 4 _ rfl),(cd (a:=⟨b,k+5,none⟩) e).trans (h 5 _ rfl)⟩
theorem OD     (e:w'.heap[b]?=w.heap[b]?) (h:∀ (i:Nat) (z:Value),(a0::a1::a2::a3::a4::a5::a6::l)[i]?=some z->w.cell? (b,k+i)=some z):w'.cell? (b,k)=some a0/\w'.cell? (b,k+1)=some a1/\w'.cell? (b,k+2)=some a2/\w'.cell? (b,k+3)=some a3/\w'.cell? (b,k+4)=some a4/\w'.cell? (b,k+5)=some a5/\w'.cell? (b,k+6)=some a6:=⟨(cd (a:=⟨b,k+0,none⟩) e).trans (h 0 _ rfl),(cd (a:=⟨b,k+1,none⟩) e).trans (h 1 _ rfl),(cd (a:=⟨b,k+2,none⟩) e).trans (h 2 _ rfl),(cd (a:=⟨b,k+3,none⟩) e).trans (h 3 _ rfl),(cd (a:=⟨b,k+4,none⟩) e).trans (h 4 _ rfl),(cd (a:=⟨b,k+5,none⟩) e).trans (h 5 _ rfl),(cd (a:=⟨b,k+6,none⟩) e).trans (h 6 _ rfl)⟩
theorem TK    (h:∀ (i:Nat) (z:Value),(a0::a1::a2::a3::a4::a5::a6::a7::a8::a9::l)[i]?=some z->P i z):P 0 a0/\P 1 a1/\P 2 a2/\P 3 a3/\P 4 a4/\P 5 a5/\P 6 a6/\P 7 a7/\P 8 a8/\P 9 a9:=⟨h 0 _ rfl,h 1 _ rfl,h 2 _ rfl,h 3 _ rfl,h 4 _ rfl,h 5 _ rfl,h 6 _ rfl,h 7 _ rfl,h 8 _ rfl,h 9 _ rfl⟩
theorem TJ    (h:∀ (i:Nat) (z:Value),(a0::a1::a2::a3::a4::a5::a6::a7::a8::a9::a10::l)[i]?=some z->P i z):P 0 a0/\P 1 a1/\P 2 a2/\P 3 a3/\P 4 a4/\P 5 a5/\P 6 a6/\P 7 a7/\P 8 a8/\P 9 a9/\P 10 a10:=⟨h 0 _ rfl,h 1 _ rfl,h 2 _ rfl,h 3 _ rfl,h 4 _ rfl,h 5 _ rfl,h 6 _ rfl,h 7 _ rfl,h 8 _ rfl,h 9 _ rfl,h 10 _ rfl⟩
theorem ak5     (e:w'.heap[b]?=w.heap[b]?) (h:∀ (i:Nat) (z:Value),(a0::a1::a2::a3::a4::a5::a6::a7::a8::a9::a10::l)[i]?=some z->w.cell? (b,k+i)=some z):w'.cell? (b,k)=some a0/\w'.cell? (b,k+1)=some a1/\w'.cell? (b,k+2)=some a2/\w'.cell? (b,k+3)=some a3/\w'.cell? (b,k+4)=some a4/\w'.cell? (b,k+5)=some a5/\w'.cell? (b,k+6)=some a6/\w'.cell? (b,k+7)=some a7/\w'.cell? (b,k+8)=some a8/\w'.cell? (b,k+9)=some a9/\w'.cell? (b,k+10)=some a10:=⟨(cd (a:=⟨b,k+0,none⟩) e).trans (h 0 _ rfl),(cd (a:=⟨b,k+1,none⟩) e).trans (h 1 _ rfl),(cd (a:=⟨b,k+2,none⟩) e).trans (h 2 _ rfl),(cd (a:=⟨b,k+3,none⟩) e).trans (h 3 _ rfl),(cd (a:=⟨b,k+4,none⟩) e).trans (h 4 _ rfl),(cd (a:=⟨b,k+5,none⟩) e).trans (h 5 _ rfl),(cd (a:=⟨b,k+6,none⟩) e).trans (h 6 _ rfl),(cd (a:=⟨b,k+7,none⟩) e).trans (h 7 _ rfl),(cd (a:=⟨b,k+8,none⟩) e).trans (h 8 _ rfl),(cd (a:=⟨b,k+9,none⟩) e).trans (h 9 _ rfl),(cd (a:=⟨b,k+10,none⟩) e).trans (h 10 _ rfl)⟩
section
variable {P:Program}{ops:Array Oper}{md:Region.Mode}{C:World->Prop}
variable {n g i id k:Nat}{L:Array Bool->Act->Prop}{oi o:Oper}{v:Value}{Lq:Act->Prop}{Q:Exit->Act->World->Prop}{a:Act}{w:World}{l:List Oper}{listed:Array Bool}
def iZ (P:Program)(md:Region.Mode)(ops:Array Oper)(C:World->Prop)(n:Nat)(L:Array Bool->Act->Prop):Nat->Array Bool->Act->Prop
 | 0,listed,a=>L listed a
 | f+1,listed,a=>Region.ready md ops listed≠[]/\∀ i∈Region.ready md ops listed,i<n/\qOp P ops C i (iZ P md ops C n L f (listed.setIfInBounds i true)) a
theorem iN {Q':Exit->Act->World->Prop}(hL:∀ listed a w,C w->L listed a->wpAny P md ops Q' g listed a w) :
  ∀ (f:Nat) (listed:Array Bool) (a:Act) (w:World),C w->iZ P md ops C n L f listed a->wpAny P md ops Q' (f+g) listed a w
 | 0,listed,a,w,hw,h=>by rw [eJ];exact hL _ _ _ hw h
 | f+1,listed,a,w,hw,h=>by
  rw [show f+1+g=(f+g)+1 by omega];exact ⟨fun h0=>absurd h0 h.1,fun i hi=>wpOp_of_qOp hw (fun a' w' hw' h'=>iN hL f _ a' w' hw' h') (h.2 i hi).2⟩
theorem Tc1 {p:Prop}(h:p:=by rw [h] at hr;cases hr):p:=h
theorem sw (hi:ops[i]?=some oi)(mj:∀ (j:Nat) (o:Oper) cs b,ops[j]?=some o->o.op≠.select cs b)
  (hs:Region.sinkB md ops n=true) (hc:Region.chainB md ops n=true) (hn:n<ops.size) (NM:i<n)
  (hdone:∀ listed a,L listed a->∀ j∈Region.ready md ops listed,n<=j) :
  ∀ (f:Nat) (listed:Array Bool) (a:Act),HeadInv md ops n listed ->
   (∀ j oj,ops[j]?=some oj->j≠i->listed.getD j true=false->(∀ e∈oj.after,Region.binds md e=true->e.on≠i)->oi.apart ops oj=true) ->
   i∈Region.ready md ops listed->YieldsIn P ops C oi v a ->
   iZ P md ops C n L f (listed.setIfInBounds i true) (a.put oi.dst v)->iZ P md ops C n L (f+1) listed a:=by
 intro f;induction f with
 | zero =>
  intro listed a inv _ hr hy H;have pN:=(mem_ready.1 hr).1;refine ⟨fun h=>Tc1,fun j hj=>?_⟩;have MK:j<n:=(mm j n).elim id fun h=>absurd hj (tail_waits hs hc hn inv _ i rfl NM pN j h);refine ⟨MK,?_⟩
  by_cases nr:j=i
  ·subst nr;exact hy.qOp hi H
  have:=hdone _ _ H j (ix hj nr);omega
 | succ f ih =>
  intro listed a inv oc hr hy H;have pN:=(mem_ready.1 hr).1;refine ⟨fun h=>Tc1,fun j hj=>?_⟩;have MK:j<n:=(mm j n).elim id fun h=>absurd hj (tail_waits hs hc hn inv _ i rfl NM pN j h);refine ⟨MK,?_⟩
  by_cases nr:j=i
  ·subst nr;exact hy.qOp hi H
  have h1:=(H.2 j (ix hj nr)).2;obtain ⟨zj,oj,F0,hall⟩:=mem_ready.1 hj;have ao1:∀ e∈oj.after,Region.binds md e=true->e.on≠i:=fun e he hb heq=>by
   have h1:=hall e he hb;rw [heq,getD_both pN] at h1;cases h1
  have h2:=qOp_put F0 (oc j oj F0 nr zj ao1) (fun cs b=>mj i oi cs b hi) (fun cs b=>mj j oj cs b F0) hy h1;have pP:∀ k ok,ops[k]?=some ok->k≠i->(listed.setIfInBounds j true).getD k true=false ->
    (∀ e∈ok.after,Region.binds md e=true->e.on≠i)->oi.apart ops ok=true:=fun k ok hk hki pN hno=>by
   refine oc k ok hk hki ?_ hno;by_cases hjk:j=k
   ·subst hjk;exact zj
   rw [ly true hjk] at pN;exact pN
  refine qOp_mono (fun a' h3=>ih (listed.setIfInBounds j true) a' (inv.set hj MK) pP (ix hr (Ne.symm nr)) h3.1 ?_) h2;rw [FA _ _ nr];exact h3.2
theorem TcH {p:Prop}(h:p:=by simp;omega):p:=h
theorem TcD {p:Prop}(h:p:=by simp):p:=h
theorem oV (mj:Region.noSelect ops=true)(hs:Region.sinkB md ops n=true)(hc:Region.chainB md ops n=true)(hn:n<ops.size) :
  ∀ (l:List Oper) (k:Nat) (listed:Array Bool) (a:Act),(∀ j,j<l.length->l[j]?=ops[k+j]?)->k+l.length=n->HeadInv md ops n listed ->
  Region.lexHead md ops g l.length k listed=true->wpQuiet P ops C Lq l a ->
  iZ P md ops C n (fun listed' a'=>Region.seqB md ops g n listed'=true/\Lq a') l.length listed a
 | [],k,listed,a,_,hk,_,hB,h=>by
  have:k=n:=by simpa using hk
  subst this;exact ⟨by simpa [Region.lexHead] using hB,h⟩
 | o :: l,k,listed,a,hl,hk,inv,hB,h=>by
  have h0:ops[k]?=some o:=by simpa using (hl 0 TcD).symm
  simp only [cS,Region.lexHead,eh] at hB;obtain ⟨⟨hr,hf⟩,hB'⟩:=hB;have hkn:k<n:=by simp only [cS] at hk;omega
  have hr':k∈Region.ready md ops listed:=by simpa using hr
  have hst:qOp P ops C k (wpQuiet P ops C Lq l) a:=by unfold qOp;simp only [h0];exact h
  obtain ⟨v,hy,hK⟩:=yieldsIn_of_qOp h0 hst;exact sw h0 (XS mj) hs hc hn hkn (fun listed' a' hL=>seqB_ready hL.1) l.length listed a inv (Region.free_spec h0 hf) hr' hy
   (oV mj hs hc hn l (k+1) _ _ (fun j hj=>by have:=hl (j+1) TcH;simpa [Nat.add_assoc,Nat.add_comm 1 j] using this) (by simp only [cS] at hk;omega) (inv.set hr' hkn) hB' hK)
theorem Tdx {p:Prop}(h:p:=by simpa using ht):p:=h
theorem kM (n:Nat)(hm:P.follows .mixedOrders=true)(hB:Region.lexTailB .any l.toArray n=true)(hC:C w.drew)
  (h:wpQuiet P l.toArray C (fun a'=>∀ w',C w'->wpList P l.toArray Q (l.drop n) a' w') (l.take n) a):(Code.region id l.toArray true).wp P Q a w:=by
 simp only [Region.lexTailB,eh,fk] at hB;obtain ⟨⟨⟨⟨mj,hn⟩,hs⟩,hc⟩,OE⟩:=hB;have hn':n<l.length:=by simpa using hn
 have nt:(l.take n).length=n:=by simp;omega
 have CD:(l.drop n).length=l.toArray.size - n:=by simp
 have inv0:HeadInv .any l.toArray n (Array.replicate l.toArray.size false) :=
  ⟨TcD,fun j oj _ hl=>(by rw [getD_replicate_false] at hl;cases hl),fun t _ ht=>getD_in Tdx (getD_replicate_false _ _)⟩
 have H:=oV (C:=C) (md:=.any) (g:=l.toArray.size - n) mj hs hc hn (l.take n) 0 _ a (fun j hj=>by
  have hj':j<n:=by rw [nt] at hj;exact hj
  simp [hj']) (by simpa using nt) inv0 (by rw [nt];exact OE) h
 refine wp_region_any hm ?_;have:=iN (Q':=Q) (g:=l.toArray.size - n) (fun listed a' w' hw' hL=>by
  have:=wpAny_of_seq (md:=.any) (Q':=Q) (l.drop n) n listed a' w' (fun j=>by simp [pk]) (by rw [CD];exact hL.1) (hL.2 w' hw');rwa [CD] at this) _ _ _ w.drew hC H
 rw [nt,show n+(l.toArray.size - n)=l.toArray.size by omega] at this;exact this
theorem il (n:Nat)(hm:P.follows .mixedOrders=true)(hB:Region.lexTailB .any l.toArray n=true)
  (h:wpQuiet P l.toArray (fun w'=>∃ m,w'=w.drewN m) (fun a'=>∀ w',(∃ m,w'=w.drewN m)->wpList P l.toArray Q (l.drop n) a' w') (l.take n) a):(Code.region id l.toArray true).wp P Q a w :=
 kM (C:=fun w'=>∃ m,w'=w.drewN m) n hm hB ⟨1,rfl⟩ h
def nk (md:Region.Mode)(ops:Array Oper)(k n:Nat):Bool :=
 (List.range n).all fun i=>decide (i<k)||(List.range (n+1)).any fun j=>decide (i<j)&&Region.waitsFor md ops j i
def Ej (md:Region.Mode)(ops:Array Oper)(listed:Array Bool):Bool :=
 (List.range ops.size).all fun j=>match ops[j]? with
  | some oj=>!listed.getD j false||oj.after.all fun e=>!Region.binds md e||listed.getD e.on false
  | none=>true
def ES (listed:Array Bool)(k:Nat):Bool:=(List.range k).all fun i=>listed.getD i false
def AB (listed:Array Bool)(n m:Nat):Bool:=(List.range m).all fun t=>decide (t<n)||!listed.getD t true
def zS (md:Region.Mode)(ops:Array Oper)(k n:Nat)(listed:Array Bool):Bool :=
 Region.noSelect ops&&decide (n<ops.size)&&decide (k<=n)&&decide (listed.size=ops.size)&&nk md ops k n&&Region.chainB md ops n&&Ej md ops listed&&ES listed k&&AB listed n ops.size&&Region.lexHead md ops (ops.size - n) (n - k) k listed
theorem yR (h:listed.getD i false=true):listed.getD i true=true:=by
 rcases mm i listed.size with h' | h'
 ·simp [h'] at h ⊢;exact h
 simp [xp h']
theorem TcC {p:Prop}(h:p:=by omega):p:=h
theorem kH (hs:nk md ops k n=true)(hc:Region.chainB md ops n=true)(hn:n<ops.size)(inv:HeadInv md ops n listed)(hf:∀ i,i<k->listed.getD i true=true) :
  ∀ (d i:Nat),n - i=d->i<n->listed.getD i true=false->∀ t,n<=t->t ∉ Region.ready md ops listed:=by
 intro d;induction d using Nat.strongRecOn with
 | _ d ih =>
  intro i hd hi pN t ht hr;obtain ⟨_,ot,Mo,hall⟩:=mem_ready.1 hr;have UW:t<ops.size:=(Array.getElem?_eq_some_iff.1 Mo).1;have hik:¬ i<k:=fun h=>by rw [hf i h] at pN;cases pN
  by_cases NN:t=n
  ·subst NN;have h1:=List.all_eq_true.1 hs i (List.mem_range.2 hi);simp only [cN hik,nj] at h1;obtain ⟨j,hj,hj2⟩:=List.any_eq_true.1 h1;simp only [eh,fk] at hj2;obtain ⟨oj,F0,e,he,hb,Le⟩:=A5 hj2.2;have Zz:j<=t:=by have:=List.mem_range.1 hj;omega
   by_cases ZA:j=t
   ·subst ZA;have:oj=ot:=gj (F0.symm.trans Mo);subst this;have h2:=hall e he hb;rw [Le,getD_both pN] at h2;cases h2
   cases hl:listed.getD j false with
   | true =>
    have h2:=inv.closed j oj F0 hl e he hb;rw [Le,getD_both pN] at h2;cases h2
   | false =>
    have ZB:j<listed.size:=by rw [inv.size];omega
    exact ih (t - j) TcC j rfl TcC (getD_in ZB hl) t (bk _) hr
  have h1:=List.all_eq_true.1 hc t (List.mem_range.2 UW);simp only [tG,fk] at h1;rcases h1 with h1 | h1
  ·omega
  obtain ⟨o',ho',e,he,hb,Le⟩:=A5 h1;have:o'=ot:=gj (ho'.symm.trans Mo);subst this;have h2:=hall e he hb;rw [Le,getD_both (inv.tail (t - 1) TcC TcC)] at h2;cases h2
theorem sZ (hf:∀ i,i<k->listed.getD i true=true):∀ j,j<k->(listed.setIfInBounds i true).getD j true=true:=fun j hj=>by
 by_cases OG:i=j
 ·subst OG;rcases mm i listed.size with h' | h'
  ·simp [h']
  simp [xp (show (listed.setIfInBounds i true).size<=i by simpa using h')]
 rw [ly true OG];exact hf j hj
theorem ma (hi:ops[i]?=some oi)(mj:∀ (j:Nat) (o:Oper) cs b,ops[j]?=some o->o.op≠.select cs b)
  (hs:nk md ops k n=true) (hc:Region.chainB md ops n=true) (hn:n<ops.size) (NM:i<n)
  (hdone:∀ listed a,L listed a->∀ j∈Region.ready md ops listed,n<=j) :
  ∀ (f:Nat) (listed:Array Bool) (a:Act),HeadInv md ops n listed->(∀ i,i<k->listed.getD i true=true) ->
   (∀ j oj,ops[j]?=some oj->j≠i->listed.getD j true=false->(∀ e∈oj.after,Region.binds md e=true->e.on≠i)->oi.apart ops oj=true) ->
   i∈Region.ready md ops listed->YieldsIn P ops C oi v a ->
   iZ P md ops C n L f (listed.setIfInBounds i true) (a.put oi.dst v)->iZ P md ops C n L (f+1) listed a:=by
 intro f;induction f with
 | zero =>
  intro listed a inv hf _ hr hy H;have pN:=(mem_ready.1 hr).1;refine ⟨fun h=>Tc1,fun j hj=>?_⟩;have MK:j<n:=(mm j n).elim id fun h=>absurd hj (kH hs hc hn inv hf _ i rfl NM pN j h);refine ⟨MK,?_⟩
  by_cases nr:j=i
  ·subst nr;exact hy.qOp hi H
  have:=hdone _ _ H j (ix hj nr);omega
 | succ f ih =>
  intro listed a inv hf oc hr hy H;have pN:=(mem_ready.1 hr).1;refine ⟨fun h=>Tc1,fun j hj=>?_⟩;have MK:j<n:=(mm j n).elim id fun h=>absurd hj (kH hs hc hn inv hf _ i rfl NM pN j h);refine ⟨MK,?_⟩
  by_cases nr:j=i
  ·subst nr;exact hy.qOp hi H
  have h1:=(H.2 j (ix hj nr)).2;obtain ⟨zj,oj,F0,hall⟩:=mem_ready.1 hj;have ao1:∀ e∈oj.after,Region.binds md e=true->e.on≠i:=fun e he hb heq=>by
   have h1:=hall e he hb;rw [heq,getD_both pN] at h1;cases h1
  have h2:=qOp_put F0 (oc j oj F0 nr zj ao1) (fun cs b=>mj i oi cs b hi) (fun cs b=>mj j oj cs b F0) hy h1;have pP:∀ k ok,ops[k]?=some ok->k≠i->(listed.setIfInBounds j true).getD k true=false ->
    (∀ e∈ok.after,Region.binds md e=true->e.on≠i)->oi.apart ops ok=true:=fun k ok hk hki pN hno=>by
   refine oc k ok hk hki ?_ hno;by_cases hjk:j=k
   ·subst hjk;exact zj
   rw [ly true hjk] at pN;exact pN
  refine qOp_mono (fun a' h3=>ih (listed.setIfInBounds j true) a' (inv.set hj MK) (sZ hf) pP (ix hr (Ne.symm nr)) h3.1 ?_) h2;rw [FA _ _ nr];exact h3.2
theorem jH {k0:Nat}(mj:Region.noSelect ops=true)(hs:nk md ops k0 n=true)(hc:Region.chainB md ops n=true)(hn:n<ops.size) :
  ∀ (l:List Oper) (k:Nat) (listed:Array Bool) (a:Act),(∀ j,j<l.length->l[j]?=ops[k+j]?)->k+l.length=n->HeadInv md ops n listed->(∀ i,i<k0->listed.getD i true=true) ->
  Region.lexHead md ops g l.length k listed=true->wpQuiet P ops C Lq l a ->
  iZ P md ops C n (fun listed' a'=>Region.seqB md ops g n listed'=true/\Lq a') l.length listed a
 | [],k,listed,a,_,hk,_,_,hB,h=>by
  have:k=n:=by simpa using hk
  subst this;exact ⟨by simpa [Region.lexHead] using hB,h⟩
 | o :: l,k,listed,a,hl,hk,inv,hf0,hB,h=>by
  have h0:ops[k]?=some o:=by simpa using (hl 0 TcD).symm
  simp only [cS,Region.lexHead,eh] at hB;obtain ⟨⟨hr,hf⟩,hB'⟩:=hB;have hkn:k<n:=by simp only [cS] at hk;omega
  have hr':k∈Region.ready md ops listed:=by simpa using hr
  have hst:qOp P ops C k (wpQuiet P ops C Lq l) a:=by unfold qOp;simp only [h0];exact h
  obtain ⟨v,hy,hK⟩:=yieldsIn_of_qOp h0 hst;exact ma h0 (XS mj) hs hc hn hkn (fun listed' a' hL=>seqB_ready hL.1) l.length listed a inv hf0 (Region.free_spec h0 hf) hr' hy
   (jH mj hs hc hn l (k+1) _ _ (fun j hj=>by have:=hl (j+1) TcH;simpa [Nat.add_assoc,Nat.add_comm 1 j] using this) (by simp only [cS] at hk;omega) (inv.set hr' hkn) (sZ hf0) hB' hK)
theorem zu (k n:Nat)(listed:Array Bool)(hB:zS .any l.toArray k n listed=true)(hC:C w)
  (h:wpQuiet P l.toArray C (fun a'=>∀ w',C w'->wpList P l.toArray Q (l.drop n) a' w') ((l.take n).drop k) a):wpAny P .any l.toArray Q (l.length - k) listed a w:=by
 simp only [zS,eh,fk] at hB;obtain ⟨⟨⟨⟨⟨⟨⟨⟨⟨mj,hn⟩,hkn⟩,hsz⟩,hs⟩,hc⟩,hcl⟩,ZC⟩,pN⟩,OE⟩:=hB;have hn':n<l.length:=by simpa using hn
 have nt:((l.take n).drop k).length=n - k:=by simp;omega
 have CD:(l.drop n).length=l.toArray.size - n:=by simp
 have hf0:∀ i,i<k->listed.getD i true=true:=fun i hi=>yR (List.all_eq_true.1 ZC i (List.mem_range.2 hi))
 have inv0:HeadInv .any l.toArray n listed:=by
  refine ⟨hsz,fun j oj hj hl e he hb=>?_,fun t ht ht'=>?_⟩
  ·have h1:=List.all_eq_true.1 hcl j (List.mem_range.2 (Array.getElem?_eq_some_iff.1 hj).1);simp only [hj,hl,Bool.not_true,nj] at h1;have h2:=Array.all_eq_true_iff_forall_mem.1 h1 e he;simpa [hb] using h2
  have h1:=List.all_eq_true.1 pN t (List.mem_range.2 ht');simp only [tG,fk,tz] at h1;rcases h1 with h1 | h1
  ·omega
  exact h1
 have H:=jH (P:=P) (C:=C) (md:=.any) (k0:=k) (g:=l.toArray.size - n) mj hs hc hn ((l.take n).drop k) k listed a (fun j hj=>by
  have hj':j<n - k:=by rw [nt] at hj;exact hj
  simp [pk,show k+j<n by omega]) (by rw [nt];omega) inv0 hf0 (by rw [nt];exact OE) h
 have:=iN (Q':=Q) (g:=l.toArray.size - n) (fun listed a' w' hw' hL=>by
  have:=wpAny_of_seq (md:=.any) (Q':=Q) (l.drop n) n listed a' w' (fun j=>by simp [pk]) (by rw [CD];exact hL.1) (hL.2 w' hw');rwa [CD] at this) _ _ _ w hC H
 rw [nt,show n - k+(l.toArray.size - n)=l.length - k by simp;omega] at this;exact this
theorem lC (x:Operand)(n:Nat)(hm:P.follows .mixedOrders=true)(ho:o.op=.move x)(hg:o.guard=none)
  (hB0:(Region.noSelect (o :: l).toArray&&Region.free .any (o :: l).toArray (Array.replicate (o :: l).toArray.size false) 0&&(Region.ready .any (o :: l).toArray (Array.replicate (o :: l).toArray.size false)).contains 0)=true)
  (hB:zS .any (o :: l).toArray 1 n ((Array.replicate (o :: l).toArray.size false).setIfInBounds 0 true)=true)
  (hQ':∀ c (v:Value) a w,Q (.panic c) (a.put o.dst v) w->Q (.panic c) a w) (hC:C w.drew)
  (h:wpQuiet P (o :: l).toArray C (fun a'=>∀ w',C w'->wpList P (o :: l).toArray Q ((o :: l).drop n) a' w') (((o :: l).take n).drop 1) (a.put o.dst (a.eval x))):(Code.region id (o :: l).toArray true).wp P Q a w:=by
 simp only [eh] at hB0;obtain ⟨⟨h1,h2⟩,h3⟩:=hB0;refine wp_region_any hm ?_;have hy:Yields P (o :: l).toArray o (a.eval x) a:=.inl ⟨by simp [Region.wanted,hg],fun w=>by rw [BigFrame.run_move x ho]⟩;have H:=zu (P:=P) (C:=C) (Q:=Q) (w:=w.drew) 1 n _ hB hC h;exact wpAny_take (i:=0) (v:=a.eval x) (fuel:=l.length) TcD h1 h2 h3 (fun c=>hQ' c _) hy (by simpa using H)
theorem Tdw {p:Prop}(h:p:=by rw [ha];exact h):p:=h
theorem uk {a':Act}(x:Operand)(n:Nat)(hm:P.follows .mixedOrders=true)(ho:o.op=.move x)(hg:o.guard=none)
  (hB0:(Region.noSelect (o :: l).toArray&&Region.free .any (o :: l).toArray (Array.replicate (o :: l).toArray.size false) 0&&(Region.ready .any (o :: l).toArray (Array.replicate (o :: l).toArray.size false)).contains 0)=true)
  (hB:zS .any (o :: l).toArray 1 n ((Array.replicate (o :: l).toArray.size false).setIfInBounds 0 true)=true)
  (hQ':∀ c (v:Value) a w,Q (.panic c) (a.put o.dst v) w->Q (.panic c) a w) (ha:a.put o.dst (a.eval x)=a')
  (h:wpQuiet P (o :: l).toArray (fun w'=>∃ m,w'=w.drewN m) (fun a'=>∀ w',(∃ m,w'=w.drewN m)->wpList P (o :: l).toArray Q ((o :: l).drop n) a' w') (((o :: l).take n).drop 1) a'):(Code.region id (o :: l).toArray true).wp P Q a w :=
 lC (C:=fun w'=>∃ m,w'=w.drewN m) x n hm ho hg hB0 hB hQ' ⟨1,rfl⟩ Tdw
end
variable {P:Nat->Value->Prop}{a0 a1 a2 a3 a4 a5 a6 a7 a8 a9 a10:Value}{l:List Value}
theorem aa {p:Prop} (h:p):Go.RowKit.Hid p:=h
theorem sv3    (h:∀ (i:Nat) (z:Value),(a0::a1::a2::l)[i]?=some z->P i z):P 0 a0/\P 1 a1/\P 2 a2:=⟨h 0 _ rfl,h 1 _ rfl,h 2 _ rfl⟩
theorem sv4    (h:∀ (i:Nat) (z:Value),(a0::a1::a2::a3::l)[i]?=some z->P i z):P 0 a0/\P 1 a1/\P 2 a2/\P 3 a3:=⟨h 0 _ rfl,h 1 _ rfl,h 2 _ rfl,h 3 _ rfl⟩
theorem sv5    (h:∀ (i:Nat) (z:Value),(a0::a1::a2::a3::a4::l)[i]?=some z->P i z):P 0 a0/\P 1 a1/\P 2 a2/\P 3 a3/\P 4 a4:=⟨h 0 _ rfl,h 1 _ rfl,h 2 _ rfl,h 3 _ rfl,h 4 _ rfl⟩
theorem sv6    (h:∀ (i:Nat) (z:Value),(a0::a1::a2::a3::a4::a5::l)[i]?=some z->P i z):P 0 a0/\P 1 a1/\P 2 a2/\P 3 a3/\P 4 a4/\P 5 a5:=⟨h 0 _ rfl,h 1 _ rfl,h 2 _ rfl,h 3 _ rfl,h 4 _ rfl,h 5 _ rfl⟩
theorem se    (h:∀ (i:Nat) (z:Value),(a0::a1::a2::a3::a4::a5::a6::l)[i]?=some z->P i z):P 0 a0/\P 1 a1/\P 2 a2/\P 3 a3/\P 4 a4/\P 5 a5/\P 6 a6:=⟨h 0 _ rfl,h 1 _ rfl,h 2 _ rfl,h 3 _ rfl,h 4 _ rfl,h 5 _ rfl,h 6 _ rfl⟩
theorem sv8    (h:∀ (i:Nat) (z:Value),(a0::a1::a2::a3::a4::a5::a6::a7::l)[i]?=some z->P i z):P 0 a0/\P 1 a1/\P 2 a2/\P 3 a3/\P 4 a4/\P 5 a5/\P 6 a6/\P 7 a7:=⟨h 0 _ rfl,h 1 _ rfl,h 2 _ rfl,h 3 _ rfl,h 4 _ rfl,h 5 _ rfl,h 6 _ rfl,h 7 _ rfl⟩
theorem xr    (h:∀ (i:Nat) (z:Value),(a0::a1::a2::a3::a4::a5::a6::a7::a8::l)[i]?=some z->P i z):P 0 a0/\P 1 a1/\P 2 a2/\P 3 a3/\P 4 a4/\P 5 a5/\P 6 a6/\P 7 a7/\P 8 a8:=⟨h 0 _ rfl,h 1 _ rfl,h 2 _ rfl,h 3 _ rfl,h 4 _ rfl,h 5 _ rfl,h 6 _ rfl,h 7 _ rfl,h 8 _ rfl⟩
theorem IG    (h:∀ (i:Nat) (z:Value),(a0::a1::a2::a3::a4::a5::a6::a7::a8::a9::l)[i]?=some z->P i z):P 0 a0/\P 1 a1/\P 2 a2/\P 3 a3/\P 4 a4/\P 5 a5/\P 6 a6/\P 7 a7/\P 8 a8/\P 9 a9:=⟨h 0 _ rfl,h 1 _ rfl,h 2 _ rfl,h 3 _ rfl,h 4 _ rfl,h 5 _ rfl,h 6 _ rfl,h 7 _ rfl,h 8 _ rfl,h 9 _ rfl⟩
theorem IC    (h:∀ (i:Nat) (z:Value),(a0::a1::a2::a3::a4::a5::a6::a7::a8::a9::a10::l)[i]?=some z->P i z):P 0 a0/\P 1 a1/\P 2 a2/\P 3 a3/\P 4 a4/\P 5 a5/\P 6 a6/\P 7 a7/\P 8 a8/\P 9 a9/\P 10 a10:=⟨h 0 _ rfl,h 1 _ rfl,h 2 _ rfl,h 3 _ rfl,h 4 _ rfl,h 5 _ rfl,h 6 _ rfl,h 7 _ rfl,h 8 _ rfl,h 9 _ rfl,h 10 _ rfl⟩
theorem IE  {a11:Value}  (h:∀ (i:Nat) (z:Value),(a0::a1::a2::a3::a4::a5::a6::a7::a8::a9::a10::a11::l)[i]?=some z->P i z):P 0 a0/\P 1 a1/\P 2 a2/\P 3 a3/\P 4 a4/\P 5 a5/\P 6 a6/\P 7 a7/\P 8 a8/\P 9 a9/\P 10 a10/\P 11 a11:=⟨h 0 _ rfl,h 1 _ rfl,h 2 _ rfl,h 3 _ rfl,h 4 _ rfl,h 5 _ rfl,h 6 _ rfl,h 7 _ rfl,h 8 _ rfl,h 9 _ rfl,h 10 _ rfl,h 11 _ rfl⟩
open Go.RowKit
variable {a:Act}{b B o id off B':Nat}{w w' W:World}{i l:List (Int × Int)}{v:Value}{P:Program}{Q:Exit->Act->World->Prop}{α:Type}{ops:Array Oper}{rest:List Oper}{q:Int × Int}
theorem ah {a b:Bool}(h:a=b):Ending.returned (.bool a)=.returned (.bool b):=by rw [h]
theorem cz {k:IntKind}{a b:Int}(h:a=b):Ending.returned (.int k a)=.returned (.int k b):=by rw [h]
theorem aD {cs:Array Value}{t:TypeId}{i:Nat}(hb:b=w.heap.size)(h:cs[i]?=some v):(w.alloc (.cells cs t)).cell? (b,i)=some v:=by
 subst hb;have:(w.alloc (.cells cs t)).heap[w.heap.size]?=some (.cells cs t (0,0)):=b9 w _;unfold World.cell?;simp only [this];simpa using h
theorem mn {a b c:World}(h:Below a.heap.size a b)(k:Below b.heap.size b c):Below a.heap.size a c:=h.trans (k.mono h.size)
theorem aT {a:World}(h:Below B a w)(n:Nat):Below B a (w.drewN n):=⟨h.os,h.tape,h.output,h.size,h.block⟩
structure fo where
 d:Nat
 os:Array Obj
instance:Inhabited fo:=⟨⟨0,#[]⟩⟩
def ext (w:World)(p:fo):World:={ w with drawn:=p.d,heap:=w.heap++p.os }
theorem dQ (w:World)(p:fo):Below w.heap.size w (ext w p) :=
 ⟨rfl,rfl,rfl,by simp [ext],fun k hk=>by simp [ext,Array.getElem?_append,hk]⟩
theorem jX (h:Below w.heap.size w w'):∃ p:fo,w'=ext w p:=by
 refine ⟨⟨w'.drawn,w'.heap.extract w.heap.size w'.heap.size⟩,?_⟩;have hh:w'.heap=w.heap++w'.heap.extract w.heap.size w'.heap.size:=by
  apply Array.ext_getElem?;intro i;rw [Array.getElem?_append];split
  ·rename_i hi;exact h.block i hi
  rename_i hi;have:=h.size;rw [Array.getElem?_extract];by_cases h2:i<w'.heap.size
  ·rw [aw TcC];congr 1;omega
  rw [bh TcC];exact xp TcC
 unfold ext;cases w'
 simp only [World.mk.injEq];exact ⟨hh,h.tape,trivial,h.os,h.output⟩
theorem dY (h:∃ p:fo,w'=ext w p):Below w.heap.size w w':=by
 obtain ⟨p,rfl⟩:=h;exact dQ w p
theorem aG (hb:b<w.heap.size)(h:w.cell? (b,o)=some v)(p:fo):(ext w p).cell? (b,o)=some v :=
 ((dQ w p).cell (p:=⟨b,o,none⟩) hb).trans h
theorem Tc5 {p:Prop}(h:p:=by simpa using h):p:=h
theorem aU {l:List Oper}(hm:P.follows .mixedOrders=true)(hB:Region.lexB .any l.toArray=true)
  (h:wpQuiet P l.toArray (fun w'=>∃ p:fo,w'=ext w p) (fun a'=>∀ w',(∃ p:fo,w'=ext w p)->Q .normal a' w') l a):(Code.region id l.toArray true).wp P Q a w :=
 wp_region_quiet (C:=fun w'=>∃ p:fo,w'=ext w p) hm hB (jX ((bj _ w).drew)) Tc5
theorem lG {a':Act}{o:Oper}{l:List Oper}(x:Operand)(n:Nat)(hm:P.follows .mixedOrders=true)(ho:o.op=.move x)(hg:o.guard=none)
  (hB0:(Region.noSelect (o :: l).toArray&&Region.free .any (o :: l).toArray (Array.replicate (o :: l).toArray.size false) 0&&(Region.ready .any (o :: l).toArray (Array.replicate (o :: l).toArray.size false)).contains 0)=true)
  (hB:zS .any (o :: l).toArray 1 n ((Array.replicate (o :: l).toArray.size false).setIfInBounds 0 true)=true)
  (hQ':∀ c (v:Value) a w,Q (.panic c) (a.put o.dst v) w->Q (.panic c) a w) (ha:a.put o.dst (a.eval x)=a')
  (h:wpQuiet P (o :: l).toArray (fun w'=>∃ p:fo,w'=ext w p) (fun a'=>∀ w',(∃ p:fo,w'=ext w p)->wpList P (o :: l).toArray Q ((o :: l).drop n) a' w') (((o :: l).take n).drop 1) a'):(Code.region id (o :: l).toArray true).wp P Q a w :=
 lC (C:=fun w'=>∃ p:fo,w'=ext w p) x n hm ho hg hB0 hB hQ' (jX ((bj _ w).drew)) Tdw
theorem iH {f:FuncId}{args:Array Value}{p:fo}
  (h:Calls P f args (ext w p) fun e w'=>e=.returned v/\Below (ext w p).heap.size (ext w p) w'):Calls P f args (ext w p) fun e w''=>e=.returned v/\∃ p:fo,w''=ext w p :=
 h.mono fun _ _ ⟨he,hb⟩=>⟨he,jX (mn (dQ w p) hb)⟩
def ru (w:World)(b off:Nat)(l:List (Int × Int)):Prop :=
 ∀ (i:Nat) (p:Int × Int),l[i]?=some p->w.cell? (b,off+i*2)=some (.int .i64 p.1)/\w.cell? (b,off+i*2+1)=some (.int .i64 p.2)
theorem De (l:List α)(k:Nat)(h:k<l.length):∃ x,l[k]?=some x:=⟨l[k],lO h⟩
def xo (w:World)(v:Value)(l:List (Int × Int)):Prop :=
 ∃ p cap,v=.slice p l.length cap/\l.length<=cap/\cap<=9223372036854775807/\(0<l.length->∃ b off,p=some ⟨b,off,none⟩/\b<w.heap.size/\ru w b off l)
def bU:List (Int × Int)->List Value
 | []=>[]
 | p :: l=>.int .i64 p.1 :: .int .i64 p.2 :: bU l
def bM (w:World)(B:Nat)(v:Value)(l:List (Int × Int)):Prop:=w.ownsRow B 55 2 v l.length (bU l)
theorem gJ (a b:List (Int × Int)):bU (a++b)=bU a++bU b:=by
 induction a with
 | nil=>rfl
 | cons p a ih=>simp [bU,ih]
theorem dx (a:List (Int × Int)):(bU a).length=a.length*2:=by
 induction a with
 | nil=>rfl
 | cons p a ih=>simp [bU,ih];omega
theorem kr (l:List (Int × Int)):∀ (i:Nat) (p:Int × Int),l[i]?=some p->(bU l)[i*2]?=some (.int .i64 p.1)/\(bU l)[i*2+1]?=some (.int .i64 p.2):=by
 induction l with
 | nil=>intro i p h;simp at h
 | cons q l ih =>
  intro i p h;cases i with
  | zero=>simp at h;subst h;simp [bU]
  | succ i =>
   have:=ih i p Tc5;rw [show (i+1)*2=i*2+1+1 from by omega];simpa [bU] using this
theorem qI (l:List (Int × Int)):∀ u∈bU l,u.oneCell'=true:=by
 induction l with
 | nil=>intro u h;cases h
 | cons p l ih =>
  intro u h;simp [bU] at h;rcases h with rfl | rfl | h
  ·rfl
  ·rfl
  exact ih u h
theorem Tci {p:Prop}(h:p:=by
 exact ⟨none,0,by rw [hn],TcC,TcC,fun h=>absurd h TcC⟩):p:=h
theorem TcV {p:Prop}(h:p:=by unfold maxLen at hcm;omega):p:=h
theorem bM.rd (h:bM w B v l):xo w v l:=by
 obtain ⟨h1,h2⟩:=h;rcases h2 with ⟨rfl,hn⟩ | ⟨g,cap,cur,rfl,hb,hg,vr,hcm,hcs,ht⟩
 ·exact Tci
 refine ⟨some ⟨g,0,none⟩,cap,rfl,vr,TcV,fun _=>⟨g,0,rfl,(Array.getElem?_eq_some_iff.1 hg).1,fun i p hp=>?_⟩⟩;have hc:=kr l i p hp;have hil:i<l.length:=(List.getElem?_eq_some_iff.1 hp).1;rw [<- ht] at hc;rw [ri TcC,ri TcC] at hc;refine ⟨?_,?_⟩
 ·rw [cell_of_row w g (0+i*2) cur _ (0,0) hg,eJ];simpa using hc.1
 rw [cell_of_row w g (0+i*2+1) cur _ (0,0) hg,eJ];simpa using hc.2
theorem ru.below (hb:Below W.heap.size W w)(hbl:b<W.heap.size)(h:ru W b off l):ru w b off l:=fun i p hp=>by
 have:=h i p hp;rw [hb.cell (p:=⟨b,off+i*2,none⟩) hbl,hb.cell (p:=⟨b,off+i*2+1,none⟩) hbl];exact this
theorem Tbo {p:Prop}(h:p:=by
 obtain ⟨p,cap,hv,hl,hc,hp⟩:=h;exact ⟨p,cap,hv,hl,hc,fun h0=>by obtain ⟨b,off,e,hbl,hcc⟩:=hp h0;exact ⟨b,off,e,cC hbl hb.size,hcc.below hb hbl⟩⟩):p:=h
theorem xo.below (h:xo W v l)(hb:Below W.heap.size W w):xo w v l:=by
 exact Tbo
theorem Tbg {p:Prop}(h:p:=by
 obtain ⟨h1,h2⟩:=h;refine ⟨h1,?_⟩;rcases h2 with hn | ⟨g,cap,cur,hv,pC,hg,r⟩
 ·exact .inl hn
 exact .inr ⟨g,cap,cur,hv,pC,by rw [hb.block g (Array.getElem?_eq_some_iff.1 hg).1];exact hg,r⟩):p:=h
theorem bM.below (h:bM W B v l)(hb:Below W.heap.size W w):bM w B v l:=by
 exact Tbg
theorem bM.nil (w:World)(B:Nat):bM w B (.slice none 0 0) []:=gS w B _ 2
theorem Tcv {p:Prop}(h:p:=by
 rcases h2 with hn | ⟨g,cap,cur,hv,pC,r⟩
 ·exact .inl hn
 exact .inr ⟨g,cap,cur,hv,TcC,r⟩):p:=h
theorem Tbz {p:Prop}(h:p:=by
 obtain ⟨h1,h2⟩:=h;refine ⟨h1,?_⟩;exact Tcv):p:=h
theorem bM.mono (h:bM w B v l)(hB:B'<=B):bM w B' v l:=by
 exact Tbz
theorem xo.nil (w:World):xo w (.slice none 0 0) []:=⟨none,0,rfl,TcD,TcC,fun h=>absurd h TcD⟩
def ig (w:World)(b off:Nat)(l:List Int):Prop:=∀ (i:Nat) (n:Int),l[i]?=some n->w.cell? (b,off+i)=some (.int .i64 n)
def Hs (w:World)(v:Value)(l:List Int):Prop :=
 ∃ p cap,v=.slice p l.length cap/\l.length<=cap/\cap<=9223372036854775807/\(0<l.length->∃ b off,p=some ⟨b,off,none⟩/\b<w.heap.size/\ig w b off l)
def eG (w:World)(B:Nat)(v:Value)(l:List Int):Prop:=w.ownsRow B 3 1 v l.length (l.map (Value.int .i64))
theorem eG.rd {l:List Int}(h:eG w B v l):Hs w v l:=by
 obtain ⟨h1,h2⟩:=h;rcases h2 with ⟨rfl,hn⟩ | ⟨g,cap,cur,rfl,hb,hg,vr,hcm,hcs,ht⟩
 ·exact Tci
 refine ⟨some ⟨g,0,none⟩,cap,rfl,vr,TcV,fun _=>⟨g,0,rfl,(Array.getElem?_eq_some_iff.1 hg).1,fun i p hp=>?_⟩⟩;have hil:i<l.length:=(List.getElem?_eq_some_iff.1 hp).1;have hc:(l.map (Value.int .i64))[i]?=some (Value.int .i64 p):=by simp [hp]
 rw [<- ht,ri TcC] at hc;rw [cell_of_row w g (0+i) cur _ (0,0) hg,eJ];simpa using hc
theorem ig.below (hb:Below W.heap.size W w){l:List Int}(hbl:b<W.heap.size)(h:ig W b off l):ig w b off l:=fun i p hp=>by
 rw [hb.cell (p:=⟨b,off+i,none⟩) hbl];exact h i p hp
theorem Hs.below {l:List Int}(h:Hs W v l)(hb:Below W.heap.size W w):Hs w v l:=by
 exact Tbo
theorem eG.below {l:List Int}(h:eG W B v l)(hb:Below W.heap.size W w):eG w B v l:=by
 exact Tbg
theorem eG.mono {l:List Int}(h:eG w B v l)(hB:B'<=B):eG w B' v l:=by
 exact Tbz
theorem eG.nil (w:World)(B:Nat):eG w B (.slice none 0 0) []:=gS w B _ 1
theorem Hs.nil (w:World):Hs w (.slice none 0 0) []:=⟨none,0,rfl,TcD,TcC,fun h=>absurd h TcD⟩
theorem DT:(prog.info? 55).map (fun i=>(i.zero,i.size,i.bytes))=some (some (.agg #[.int .i64 0,.int .i64 0]),2,16):=by kernel_rfl
theorem tZ:(prog.info? 3).map (fun i=>(i.zero,i.size,i.bytes))=some (some (.int .i64 0),1,8):=by kernel_rfl
theorem TcF {p:Prop}(h:p:=by decide):p:=h
theorem TcN {p:Prop}(h:p:=by unfold maxLen;omega):p:=h
theorem jg {o:Oper}(hgd:o.guard=none)(s x:Operand)
  (ho:o.op=.call { callee:=.builtin .append,args:=#[s,x],argTypes:=#[43,43] })
  (B:Nat) (v:Value) (l:List (Int × Int)) (p:Int × Int) (hs:a.eval s=v) (hown:bM w B v l) (g c:Nat) (hx:a.eval x=.slice (some g) 1 c)
  (hc1:w.cell? g=some (.int .i64 p.1)) (hc2:w.cell? (Tac g 1)=some (.int .i64 p.2)) (hl:l.length<=100000000) (hB:B<=w.heap.size)
  (h:∀ v' w',bM w' B v' (l++[p])->Below B w w'->w.grownBy w' v.ownBlock->wpList prog ops Q rest (a.put o.dst v') w'):wpList prog ops Q (o :: rest) a w:=by
 obtain ⟨i0,hi,hz0,hz1,hz2⟩:=cy DT;refine tE w hgd s x 43 ho B 55 i0 _ 2 16 underlying43 hi hz0 hz1 hz2 rfl TcF v l.length (bU l) hs hown ⟨g,0,none⟩ 1 c (bU [p]) hx rfl (fun j u hu=>?_) (qI _) TcN TcC hB (fun v' w' ho' hg _=>?_)
 ·rw [iz,eJ]
  match j,hu with
  | 0,hu=>simp [bU] at hu;rw [<- hu];exact hc1
  | 1,hu=>simp [bU] at hu;rw [<- hu];exact hc2
  | j+2,hu=>simp [bU] at hu
 refine h v' w' ?_ ((bj B w).grown hg hB (fun k hk=>(hown.lt k hk).1)) hg;unfold bM;rw [gJ,cD];exact ho'
theorem ve {o:Oper}(hgd:o.guard=none)(s x:Operand)
  (ho:o.op=.call { callee:=.builtin .append,args:=#[s,x],argTypes:=#[22,22] })
  (B:Nat) (v:Value) (l:List Int) (p q:Int) (hs:a.eval s=v) (hown:eG w B v l) (g c:Nat) (hx:a.eval x=.slice (some g) 2 c)
  (hc1:w.cell? g=some (.int .i64 p)) (hc2:w.cell? (Tac g 1)=some (.int .i64 q)) (hl:l.length<=100000000) (hB:B<=w.heap.size)
  (h:∀ v' w',eG w' B v' (l++[p,q])->Below B w w'->wpList prog ops Q rest (a.put o.dst v') w'):wpList prog ops Q (o :: rest) a w:=by
 obtain ⟨i0,hi,hz0,hz1,hz2⟩:=cy tZ;refine tE w hgd s x 22 ho B 3 i0 _ 1 8 underlying22 hi hz0 hz1 hz2 rfl TcF v l.length (l.map (Value.int .i64)) hs hown ⟨g,0,none⟩ 2 c [.int .i64 p,.int .i64 q] hx rfl (fun j u hu=>?_) (fun u hu=>by simp at hu;rcases hu with rfl | rfl <;> rfl) TcN TcC hB (fun v' w' ho' hg _=>?_)
 ·rw [iz,eJ]
  match j,hu with
  | 0,hu=>simp at hu;rw [<- hu];exact hc1
  | 1,hu=>simp at hu;rw [<- hu];exact hc2
  | j+2,hu=>simp at hu
 refine h v' w' ?_ ((bj B w).grown hg hB (fun k hk=>(hown.lt k hk).1));unfold eG;rw [gl,cD];exact ho'
theorem bM.last (h:bM w B v (i++[q])) :
  ∃ g cap,v=.slice (some ⟨g,0,none⟩) (i.length+1) cap/\B<=g/\g<w.heap.size/\i.length+1<=cap/\cap<=9223372036854775807 /\
   w.cell? (g,i.length*2)=some (.int .i64 q.1)/\w.cell? (g,i.length*2+1)=some (.int .i64 q.2)/\w.frozen? (g,i.length*2+1)=false /\
   ∀ z:Int,bM (w.setCell (g,i.length*2+1) (.int .i64 z)) B v (i++[(q.1,z)]):=by
 have hl:(i++[q]).length=i.length+1:=by simp
 unfold bM at h;rw [hl] at h;rcases h.2 with ⟨_,hn⟩ | ⟨g,cap,cur,rfl,hb,hg,vr,hcm,hcs,ht⟩
 ·omega
 have QE:=kr (i++[q]) i.length q TcD;refine ⟨g,cap,rfl,hb,(Array.getElem?_eq_some_iff.1 hg).1,vr,TcV,?_,?_,h.frozenAt _,fun z=>?_⟩
 ·rw [h.cellAt _ TcC];exact QE.1
 ·rw [h.cellAt _ TcC];exact QE.2
 have h2:=(h.stored (i.length*2+1) (.int .i64 z)).1;unfold bM;rw [show (i++[(q.1,z)]).length=i.length+1 from by simp];have e:(bU (i++[q])).set (i.length*2+1) (.int .i64 z)=bU (i++[(q.1,z)]):=by
  rw [gJ,gJ,List.set_append_right _ _ (by rw [dx];omega),dx,show i.length*2+1 - i.length*2=1 from by omega];rfl
 rw [e] at h2;exact h2
theorem bM.setLast {g n cap:Nat}(h:bM w B (.slice (some g) n cap) (i++[q]))(z:Int) :
  bM (w.setCell (g,i.length*2+1) (.int .i64 z)) B (.slice (some g) n cap) (i++[(q.1,z)]):=by
 obtain ⟨g',cap',e,_,_,_,_,_,_,_,hst⟩:=h.last;cases e
 exact hst z
theorem aj (l:List α)(k:Nat)(h:k<l.length):∃ x,l[k]?=some x:=⟨l[k],lO h⟩
theorem take_snoc' (l:List α)(k:Nat)(x:α)(h:l[k]?=some x):l.take (k+1)=l.take k++[x]:=by
 obtain ⟨hk,rfl⟩:=List.getElem?_eq_some_iff.1 h;exact af1 hk
def nT (s l:Int):Bool:=decide (0<=s)&&decide (0<=l)&&decide (s<=1073741824)&&decide (l<=1073741824 - s)
def dI (l:List (Int × Int)):Bool:=l.all fun p=>nT p.1 p.2
theorem ai    (hb:w'.heap[b]?=w.heap[b]?) (h:w.cell? (b,o)=some v):w'.cell? (b,o)=some v:=(cd (a:=⟨b,o,none⟩) hb).trans h
theorem bK    (hb:w'.heap[b]?=w.heap[b]?) (h:w.cell? (b,o+0)=some v):w'.cell? (b,o)=some v:=(cd (a:=⟨b,o,none⟩) hb).trans h
open Go.ChangeShapes Go.WideShapes Go.ChangeAt
theorem Tryz.laidOut:laidOutB prog=true:=by kernel_rfl
theorem lJ {H:Type}{enc:TypeId × Value->H}{W W':World}(hb:Below W.heap.size W W'):∀ (ts:List TypeId) (vs:List Value) (ds:List (DataW H)) (ps:List MemPlace),
  DataW.TrodAll enc prog W 0 (fun _=>true) true ts vs ds ps->(∀ t∈ts,prog.readableRec t=true/\t<prog.types.size)->(∀ x∈ps,x.block<W.heap.size) ->
  DataW.TrodAll enc prog W' 0 (fun b=>decide (b<W.heap.size)) true ts vs ds ps
 | [],vs,ds,ps,h,_,_=>by
  obtain ⟨rfl,rfl,rfl⟩:=trodAll_nil h;exact trodAll_mk0
 | t :: ts,vs,ds,ps,h,ht,hlt=>by
  obtain ⟨v,vs',d,ds',p,q,rfl,rfl,rfl,h1,h2⟩:=trodAll_cons h;obtain ⟨ha,hb'⟩:=ht t TcD;exact trodAll_cons_mk (Below.trod Tryz.laidOut ha hb' h1 hb (fun x hx=>hlt x (by simp [hx]))) (lJ hb ts vs' ds' q h2 (fun t' h'=>ht t' (by simp [h'])) (fun x hx=>hlt x (by simp [hx])))
theorem wf_i64 {n:Int}(h:(Lit.int .i64 n).wf=true):-9223372036854775808<=n/\n<=9223372036854775807:=by
 have h1:IntKind.i64.min=-9223372036854775808:=rfl;have h2:IntKind.i64.max=9223372036854775807:=rfl;simp [Lit.wf,h1,h2] at h;exact h
theorem Tdy {p:Prop}(h:p:=by simpa using h0):p:=h
theorem TcE {p:Prop}(h:p:=by kernel_rfl):p:=h
theorem Fw {H:Type}{enc:TypeId × Value->H}{W:World}{base:Nat}{v:Value}{d:DataW H}{p:List MemPlace}(hv:Value.okWide prog W .any base 22 v)
  (h:DataW.Trod enc prog W 0 (fun _=>true) true 22 v d p) :
  ∃ l,Hs W v l/\∀ q∈l,-9223372036854775808<=q/\q<=9223372036854775807:=by
 obtain ⟨a0,len0,cap0,rfl⟩:=okWide_slice underlying22 hv;obtain ⟨fuel,hf⟩:=h;rcases Go.Deep.open_slice1 underlying22 TcE hf with ⟨hcs,_⟩ | ⟨a,len,cap,m,n,V,D,Pl,hcs,_,hl,hm,ZE,_,hi⟩
 ·simp [Value.cells] at hcs;obtain ⟨rfl,rfl,rfl⟩:=hcs;exact ⟨[],Hs.nil W,TcD⟩
 simp [Value.cells] at hcs;obtain ⟨rfl,rfl,rfl⟩:=hcs;simp only [ej] at ZE;have key:∀ i,i<len0->∃ q:Int,W.cell? (a.add i)=some (.int .i64 q)/\-9223372036854775808<=q/\q<=9223372036854775807:=fun i hil=>by
  obtain ⟨c0,t0⟩:=hi i TcC;obtain ⟨x,e0,_,w0⟩:=DataW.trod_int underlying3 t0;simp only [rp,and_true] at e0;rw [e0] at c0;exact ⟨x,c0,wf_i64 w0⟩
 obtain ⟨q,hq⟩:=Go.Deep.choose_lt key;refine ⟨(List.range len0).map q,⟨some a,cap0,TcD,by simpa using hl,by unfold maxLen at hm;omega,fun h0=>?_⟩,fun r hr=>?_⟩
 ·obtain ⟨b,off,spot⟩:=a;have h00:=(hq 0 Tdy).1;have hs:spot=none:=by simpa [Addr.add] using World.cell?_spot h00
  subst hs;refine ⟨b,off,rfl,cP W _ h00,fun i p hp=>?_⟩;have hil:i<len0:=by simpa using (List.getElem?_eq_some_iff.1 hp).1
  have hp':q i=p:=by simpa [hil] using hp
  have hh:=hq i hil;rw [hp',iz] at hh;exact hh.1
 rw [List.mem_map] at hr;obtain ⟨i,hi',rfl⟩:=hr;exact (hq i (List.mem_range.1 hi')).2
theorem TdL {p:Prop}(h:p:=by simpa using hx):p:=h
end Go.Proofs.YtaagglbgohjldaaGreatDoor
