/- Lemmas: Reg, Base, Glue, MkA, MkC, MkD, Flo, MkI, MkJ. -/
import Derived.Test.YtaagglbgohjldaaGreatDoorRows
import Derived.BigQuiet
import Derived.Lib.Hide
import Derived.ProofKit
import Derived.Deep.SlicePairs
import Derived.OpenShut
import Derived.WalkSpells
import Derived.WalkLawsBesides
import Derived.StillTailTactics
import Derived.Deep.DeepCutAuto
import Derived.Deep.CutBlock
import Derived.Deep.RegionLaw
import Derived.Deep.RegionHeld3
set_option maxRecDepth 100000
set_option maxHeartbeats 32000000
set_option linter.all false
open List renaming mem_cons→F1,all_eq_true→An,any_eq_true→Ft,pairwise_append→GP,mem_append→AS,mem_flatMap→BY,range→FF,mem_range→EV,getElem?_eq_some_iff→AT,mem_map→As,mem_filter→DP,filter_eq_nil_iff→Lw
open Array renaming replicate→GO,getElem?_eq_some_iff→DS
open Go.World renaming frozen?→BT,cell?→AN,setCell→AF,alloc→AI
open Go.Region renaming ready→BE,binds→DQ,noSelect→GB,lexHead→KK,seqB→Is,waitsFor→Lo,free→IS,wanted→By
open Go.Value renaming int→Bm,string→Cd,oneCell'→GS
namespace Go.Proofs.YtaagglbgohjldaaGreatDoor
open Go.Proofs.Tryz
instance:CoeTail Int Value:=⟨.int .i64⟩
instance:CoeTail Bool Value:=⟨.bool⟩
instance:CoeTail ByteArray Value:=⟨.string⟩
instance:CoeTail Nat Value:=⟨fun b=>.pointer (some ⟨b,0,none⟩)⟩
instance:CoeTail Addr Value:=⟨fun b=>.pointer (some b)⟩
structure Taa{α:Type _}(a:α):Type where
instance {α:Type _}{a:α}:CoeHead (Taa a) α:=⟨fun _=>a⟩
instance {p:Prop}:CoeSort (Taa p) Prop:=⟨fun _=>p⟩
abbrev Tab:=@Taa (Array Value)
instance:Coe Nat Addr:=⟨fun b=>⟨b,0,none⟩⟩
instance {b i}:CoeDep (Nat×Nat) (b,i) Addr:=⟨⟨b,i,none⟩⟩
def Tac(b i:Nat):Taa (⟨b,i,none⟩:Addr):=⟨⟩
variable {W w w':World}{b k:Nat}{l:List Value}{t:TypeId}{a0 a1 a2 a3 a4 a5 a6:Value}
abbrev cd:=@Go.World.cell?_of_block
abbrev bw:=@Go.RowKit.Below.heap_setCell
abbrev aq:=@Go.lt_of_block
abbrev b9:=@Go.heap_alloc_new
abbrev ct:=@List.mem_of_getElem?
abbrev bj:=@Go.RowKit.Below.refl
abbrev bk:=@Nat.le_refl
abbrev cj:=@Go.RowKit.Below.heap_alloc
abbrev cD:=@List.length_append
abbrev cq:=@List.foldl_nil
abbrev cP:=@Go.World.block_lt_of_cell?
abbrev cC:=@Nat.lt_of_lt_of_le
abbrev cG:=@List.mem_cons_self
abbrev cg:=@Nat.zero_le
abbrev cQ:=@List.drop_succ_cons
abbrev cF:=@List.foldl_cons
abbrev cI:=@List.take_length
abbrev aw:=@if_pos
abbrev cN:=@decide_eq_false
abbrev bh:=@if_neg
abbrev cA:=@Nat.le_trans
abbrev cS:=@List.length_cons
abbrev cL:=@List.drop_zero
abbrev cV:=@List.append_assoc
abbrev cW:=@Go.World.size_alloc
abbrev eV:=@List.mem_of_find?_eq_some
abbrev fX:=@List.eq_nil_of_length_eq_zero
abbrev cY:=@List.not_mem_nil
abbrev eh:=@Bool.and_eq_true
abbrev ey:=@List.length_take
abbrev dy:=@Go.IntWalk.i64_in
abbrev fc:=@List.getElem?_of_mem
abbrev dr:=@F1
abbrev eA:=@decide_eq_true
abbrev eL:=@An
abbrev dT:=@Go.RowKit.Below.alloc
abbrev fk:=@decide_eq_true_eq
abbrev fh:=@Go.World.ownsRow.lt
abbrev eM:=@List.append_nil
abbrev gA:=@Go.RowKit.Below.drew
abbrev gg:=@Go.info_parts
abbrev eC:=@Go.bodyPost_ret
abbrev jz:=@List.take_of_length_le
abbrev lO:=@List.getElem?_eq_getElem
abbrev ju:=@List.mem_append_left
abbrev eJ:=@Nat.zero_add
abbrev fW:=@List.length_map
abbrev gS:=@Go.World.ownsRow_nil
abbrev gl:=@List.map_append
abbrev kn:=@List.mem_cons_of_mem
abbrev Ox:=@List.length_nil
abbrev fg:=@Nat.add_zero
abbrev dg:=@or_false
abbrev gj:=@Option.some.inj
abbrev ri:=@List.getElem?_take_of_lt
abbrev fp:=@Nat.mul_one
abbrev tB:=@List.drop_eq_getElem_cons
abbrev rh:=@Go.World.frozen?_of_block
abbrev ad2:=@List.all_eq_false
abbrev iv:=@List.take_zero
abbrev fR:=@Go.wpQuiet_nil
abbrev lB:=@List.flatMap_cons
abbrev fN:=@Go.RowKit.Below.grown
abbrev rk:=@List.take_append_drop
abbrev po:=@Go.Calls.quiet_of_same
abbrev xT:=@List.setIfInBounds_toArray
abbrev iu:=@List.map_cons
abbrev pk:=@List.getElem?_drop
abbrev ej:=@if_true
abbrev pj:=@Bool.false_eq_true
abbrev lz:=@Int.ediv_nonneg
abbrev nh:=@Ft
abbrev mS:=@Int.ediv_le_self
abbrev tk:=@List.length_filter_le
abbrev iz:=@Go.Addr.add_lit
abbrev Cp:=@List.getElem?_append_right
abbrev tA:=@Nat.mul_le_mul_right
abbrev CC:=@Int.tdiv_eq_ediv_of_nonneg
abbrev rr:=@Nat.lt_of_le_of_lt
abbrev mN:=@Bool.eq_iff_iff
abbrev km:=@List.drop_nil
abbrev xp:=@Array.getElem?_eq_none
abbrev aa0:=@Array.getElem?_eq_getElem
abbrev xj:=@List.getElem?_eq_none
abbrev nj:=@Bool.false_or
abbrev ix:=@Go.ready_mono
abbrev tz:=@Bool.not_eq_true'
abbrev lA:=@Go.Maps.keyOf_int_mk
abbrev tD:=@List.find?_append
abbrev xi:=@List.take_succ_cons
abbrev xt:=@List.flatMap_append
abbrev rj:=@List.any_append
abbrev Fo:=@List.getElem?_append_left
abbrev Cl:=@Go.Lib.run_eql_slice_nil
abbrev P9:=@List.mem_append_right
abbrev CA:=@ByteArray.size_append
abbrev xF:=@List.getElem?_take
abbrev FA:=@Array.setIfInBounds_comm
abbrev ly:=@Go.getD_set_ne
abbrev XS:=@Go.Region.noSelect_spec
abbrev tR:=@List.mem_of_mem_take
abbrev Oy:=@Nat.add_mul
abbrev tP:=@GP
abbrev rI:=@List.getElem?_map
abbrev oT:=@AS
abbrev fj:=@congrArg
abbrev oA:=@Int.mul_nonneg
abbrev tM:=@List.mem_replicate
abbrev BW:=@Array.getElem?_modify
abbrev A4:=@List.length_singleton
abbrev rp:=@List.cons.injEq
abbrev mm:=@Nat.lt_or_ge
abbrev A5:=@Go.Region.waitsFor_spec
abbrev tE:=@Go.wpList_append_own
abbrev af1:=@List.take_succ_eq_append_getElem
abbrev ud:=@Go.Result.andThen_ok
abbrev fY:=@if_false
abbrev A6:=@Go.ByteArray.toList_eq
abbrev D4:=@Int.eq_ofNat_of_zero_le
abbrev tS:=@List.map_toArray
abbrev E1:=@List.filter_cons_of_pos
abbrev ae7:=@List.filter_cons_of_neg
abbrev tI:=@Go.Fence.wide_round
abbrev ur:=@BY
abbrev B0:=@Nat.eq_or_lt_of_le
abbrev oB:=@getElem!_pos
abbrev kt:=@Go.RowKit.Below.mono
abbrev tG:=@Bool.or_eq_true
abbrev ub:=@Go.Oper.semAt_none
abbrev DO:=@List.length_mergeSort
abbrev E0:=@List.filterMap_append
abbrev A0:=@List.filter_congr
abbrev Bk:=@List.ext_getElem?
abbrev ue:=@Nat.mul_le_mul
abbrev tW:=@Int.mul_le_mul
abbrev tU:=@Go.run_underlying
def _root_.Go.RowKit.Hid.o{p:Prop} (h:Go.RowKit.Hid p):p:=h.out
def TcH{p:Prop}(h:p:=by
 simp only[World.cell?,h];simpa using hz):p:=h
def cr     {q:Nat × Nat} (h:W.1[b]?=some (.cells l.toArray t q)) (i:Nat) (z:Value) (hz:l[i]?=some z):W.cell? (b,i)=some z:=by
 exact TcH
def sr   {l:Array Value}  (h:W.1[b]?=some (.cells l t (0,0))) (i:Nat):W.frozen? (b,i)=false:=by simp[BT,h]
def sw2     (e:w'.1[b]?=w.1[b]?) (h:∀(i:Nat) (z:Value),(a0::a1::l)[i]?=some z->w.cell? (b,k+i)=some z):w'.cell? (b,k)=some a0/\w'.cell? (b,k+1)=some a1:=⟨(cd (a:=⟨b,k+0,none⟩) e).trans (h 0 _ rfl),(cd (a:=⟨b,k+1,none⟩) e).trans (h 1 _ rfl)⟩
def Mn     (e:w'.1[b]?=w.1[b]?) (h:∀(i:Nat) (z:Value),(a0::a1::a2::l)[i]?=some z->w.cell? (b,k+i)=some z):w'.cell? (b,k)=some a0/\w'.cell? (b,k+1)=some a1/\w'.cell? (b,k+2)=some a2:=⟨(cd (a:=⟨b,k+0,none⟩) e).trans (h 0 _ rfl),(cd (a:=⟨b,k+1,none⟩) e).trans (h 1 _ rfl),(cd (a:=⟨b,k+2,none⟩) e).trans (h 2 _ rfl)⟩
def sw4     (e:w'.1[b]?=w.1[b]?) (h:∀(i:Nat) (z:Value),(a0::a1::a2::a3::l)[i]?=some z->w.cell? (b,k+i)=some z):w'.cell? (b,k)=some a0/\w'.cell? (b,k+1)=some a1/\w'.cell? (b,k+2)=some a2/\w'.cell? (b,k+3)=some a3:=⟨(cd (a:=⟨b,k+0,none⟩) e).trans (h 0 _ rfl),(cd (a:=⟨b,k+1,none⟩) e).trans (h 1 _ rfl),(cd (a:=⟨b,k+2,none⟩) e).trans (h 2 _ rfl),(cd (a:=⟨b,k+3,none⟩) e).trans (h 3 _ rfl)⟩
def sw6     (e:w'.1[b]?=w.1[b]?) (h:∀(i:Nat) (z:Value),(a0::a1::a2::a3::a4::a5::l)[i]?=some z->w.cell? (b,k+i)=some z):w'.cell? (b,k)=some a0/\w'.cell? (b,k+1)=some a1/\w'.cell? (b,k+2)=some a2/\w'.cell? (b,k+3)=some a3/\w'.cell? (b,k+4)=some a4/\w'.cell? (b,k+5)=some a5:=⟨(cd (a:=⟨b,k+0,none⟩) e).trans (h 0 _ rfl),(cd (a:=⟨b,k+1,none⟩) e).trans (h 1 _ rfl),(cd (a:=⟨b,k+2,none⟩) e).trans (h 2 _ rfl),(cd (a:=⟨b,k+3,none⟩) e).trans (h 3 _ rfl),(cd (a:=⟨b,k+4,none⟩) e).trans (h 4 _ rfl),(cd (a:=⟨b,k+5,none⟩) e).trans (h 5 _ rfl)⟩
def OD     (e:w'.1[b]?=w.1[b]?) (h:∀(i:Nat) (z:Value),(a0::a1::a2::a3::a4::a5::a6::l)[i]?=some z->w.cell? (b,k+i)=some z):w'.cell? (b,k)=some a0/\w'.cell? (b,k+1)=some a1/\w'.cell? (b,k+2)=some a2/\w'.cell? (b,k+3)=some a3/\w'.cell? (b,k+4)=some a4/\w'.cell? (b,k+5)=some a5/\w'.cell? (b,k+6)=some a6:=⟨(cd (a:=⟨b,k+0,none⟩) e).trans (h 0 _ rfl),(cd (a:=⟨b,k+1,none⟩) e).trans (h 1 _ rfl),(cd (a:=⟨b,k+2,none⟩) e).trans (h 2 _ rfl),(cd (a:=⟨b,k+3,none⟩) e).trans (h 3 _ rfl),(cd (a:=⟨b,k+4,none⟩) e).trans (h 4 _ rfl),(cd (a:=⟨b,k+5,none⟩) e).trans (h 5 _ rfl),(cd (a:=⟨b,k+6,none⟩) e).trans (h 6 _ rfl)⟩
def ak5   {a7 a8 a9 ab:Value}  (e:w'.1[b]?=w.1[b]?) (h:∀(i:Nat) (z:Value),(a0::a1::a2::a3::a4::a5::a6::a7::a8::a9::ab::l)[i]?=some z->w.cell? (b,k+i)=some z):w'.cell? (b,k)=some a0/\w'.cell? (b,k+1)=some a1/\w'.cell? (b,k+2)=some a2/\w'.cell? (b,k+3)=some a3/\w'.cell? (b,k+4)=some a4/\w'.cell? (b,k+5)=some a5/\w'.cell? (b,k+6)=some a6/\w'.cell? (b,k+7)=some a7/\w'.cell? (b,k+8)=some a8/\w'.cell? (b,k+9)=some a9/\w'.cell? (b,k+10)=some ab:=⟨(cd (a:=⟨b,k+0,none⟩) e).trans (h 0 _ rfl),(cd (a:=⟨b,k+1,none⟩) e).trans (h 1 _ rfl),(cd (a:=⟨b,k+2,none⟩) e).trans (h 2 _ rfl),(cd (a:=⟨b,k+3,none⟩) e).trans (h 3 _ rfl),(cd (a:=⟨b,k+4,none⟩) e).trans (h 4 _ rfl),(cd (a:=⟨b,k+5,none⟩) e).trans (h 5 _ rfl),(cd (a:=⟨b,k+6,none⟩) e).trans (h 6 _ rfl),(cd (a:=⟨b,k+7,none⟩) e).trans (h 7 _ rfl),(cd (a:=⟨b,k+8,none⟩) e).trans (h 8 _ rfl),(cd (a:=⟨b,k+9,none⟩) e).trans (h 9 _ rfl),(cd (a:=⟨b,k+10,none⟩) e).trans (h 10 _ rfl)⟩
section
variable {P:Program}{ops:Array Oper}{md:Region.Mode}{C:World->Prop}
variable {n g i id k:Nat}{L:Array Bool->Act->Prop}{oi:Oper}{v:Value}{Lq:Act->Prop}{Q:Exit->Act->World->Prop}{a:Act}{w:World}{l:List Oper}{listed:Array Bool}
def iZ(P:Program)(md:Region.Mode)(ops:Array Oper)(C:World->Prop)(n:Nat)(L:Array Bool->Act->Prop):Nat->Array Bool->Act->Prop
 |0,listed,a=>L listed a
 |f+1,listed,a=>BE md ops listed≠[]/\∀i∈BE md ops listed,i<n/\qOp P ops C i (iZ P md ops C n L f (listed.setIfInBounds i true)) a
def iN{Q':Exit->Act->World->Prop}(hL:∀listed a w,C w->L listed a->wpAny P md ops Q' g listed a w) :
  ∀(f:Nat) (listed:Array Bool) (a:Act) (w:World),C w->iZ P md ops C n L f listed a->wpAny P md ops Q' (f+g) listed a w
 |0,listed,a,w,hw,h=>by rw[eJ];exact hL _ _ _ hw h
 |f+1,listed,a,w,hw,h=>by
  rw[show f+1+g=(f+g)+1 by omega];exact⟨fun h0=>absurd h0 h.1,fun i hi=>wpOp_of_qOp hw (fun a' w' a5 h'=>iN hL f _ a' w' a5 h') (h.2 i hi).2⟩
def Tdo{p:Prop}(h:p:=by rw[h]at hr;cases hr):p:=h
theorem sw(hi:ops[i]?=some oi)(mj:∀(j:Nat) (o:Oper) cs b,ops[j]?=some o->o.op≠.select cs b)
  (hs:Region.sinkB md ops n=true) (hc:Region.chainB md ops n=true) (hn:n<ops.size) (a8:i<n)
  (a5:∀listed a,L listed a->∀j∈BE md ops listed,n<=j) :
  ∀(f:Nat) (listed:Array Bool) (a:Act),HeadInv md ops n listed ->
   (∀j oj,ops[j]?=some oj->j≠i->listed.getD j true=false->(∀e∈oj.after,DQ md e=true->e.on≠i)->oi.apart ops oj=true) ->
   i∈BE md ops listed->YieldsIn P ops C oi v a ->
   iZ P md ops C n L f (listed.setIfInBounds i true) (a.put oi.dst v)->iZ P md ops C n L (f+1) listed a:=by
 intro f;induction f with
 |zero =>
  intro listed a inv _ hr hy H;have pN:=(mem_ready.1 hr).1;refine⟨fun h=>Tdo,fun j hj=>?_⟩;have a7:j<n:=(mm j n).elim id fun h=>absurd hj (tail_waits hs hc hn inv _ i rfl a8 pN j h);refine⟨a7,?_⟩
  by_cases nr:j=i
  ·subst nr;exact hy.qOp hi H
  have:=a5 _ _ H j (ix hj nr);omega
 |succ f ih =>
  intro listed a inv oc hr hy H;have pN:=(mem_ready.1 hr).1;refine⟨fun h=>Tdo,fun j hj=>?_⟩;have a7:j<n:=(mm j n).elim id fun h=>absurd hj (tail_waits hs hc hn inv _ i rfl a8 pN j h);refine⟨a7,?_⟩
  by_cases nr:j=i
  ·subst nr;exact hy.qOp hi H
  have h1:=(H.2 j (ix hj nr)).2;obtain⟨zj,oj,F0,hall⟩:=mem_ready.1 hj;have a9:∀e∈oj.after,DQ md e=true->e.on≠i:=fun e he hb heq=>by
   have h1:=hall e he hb;rw[heq,getD_both pN]at h1;cases h1
  have h2:=qOp_put F0 (oc j oj F0 nr zj a9) (fun cs b=>mj i oi cs b hi) (fun cs b=>mj j oj cs b F0) hy h1;have pP:∀k ok,ops[k]?=some ok->k≠i->(listed.setIfInBounds j true).getD k true=false ->
    (∀e∈ok.after,DQ md e=true->e.on≠i)->oi.apart ops ok=true:=fun k ok hk XQ pN hno=>by
   refine oc k ok hk XQ ?_ hno;by_cases hjk:j=k
   ·subst hjk;exact zj
   rw[ly true hjk]at pN;exact pN
  refine qOp_mono (fun a' h3=>ih (listed.setIfInBounds j true) a' (inv.set hj a7) pP (ix hr (Ne.symm nr)) h3.1 ?_) h2;rw[FA _ _ nr];exact h3.2
def Tc6{p:Prop}(h:p:=by simp;omega):p:=h
def Tc2{p:Prop}(h:p:=by simp):p:=h
def oV(mj:GB ops=true)(hs:Region.sinkB md ops n=true)(hc:Region.chainB md ops n=true)(hn:n<ops.size) :
  ∀(l:List Oper) (k:Nat) (listed:Array Bool) (a:Act),(∀j,j<l.length->l[j]?=ops[k+j]?)->k+l.length=n->HeadInv md ops n listed ->
  KK md ops g l.length k listed=true->wpQuiet P ops C Lq l a ->
  iZ P md ops C n (fun a5 a'=>Is md ops g n a5=true/\Lq a') l.length listed a
 |[],k,listed,a,_,hk,_,hB,h=>by
  have:k=n:=by simpa using hk
  subst this;exact⟨by simpa[KK]using hB,h⟩
 |o :: l,k,listed,a,hl,hk,inv,hB,h=>by
  have h0:ops[k]?=some o:=by simpa using(hl 0 Tc2).symm
  simp only[cS,KK,eh]at hB;obtain⟨⟨hr,hf⟩,a9⟩:=hB;have a7:k<n:=by simp only[cS]at hk;omega
  have a8:k∈BE md ops listed:=by simpa using hr
  have hst:qOp P ops C k (wpQuiet P ops C Lq l) a:=by unfold qOp;simp only[h0];exact h
  obtain⟨v,hy,hK⟩:=yieldsIn_of_qOp h0 hst;exact sw h0 (XS mj) hs hc hn a7 (fun a5 a' hL=>seqB_ready hL.1) l.length listed a inv (Region.free_spec h0 hf) a8 hy
   (oV mj hs hc hn l (k+1) _ _ (fun j hj=>by have:=hl (j+1) Tc6;simpa[Nat.add_assoc,Nat.add_comm 1 j]using this) (by simp only[cS]at hk;omega) (inv.set a8 a7) a9 hK)
def TdN{p:Prop}(h:p:=by simpa using ht):p:=h
theorem kM(n:Nat)(hm:P.follows .mixedOrders=true)(hB:Region.lexTailB .any l.toArray n=true)(hC:C w.drew)
  (h:wpQuiet P l.toArray C (fun a'=>∀w',C w'->wpList P l.toArray Q (l.drop n) a' w') (l.take n) a):(Code.region id l.toArray true).wp P Q a w:=by
 simp only[Region.lexTailB,eh,fk]at hB;obtain⟨⟨⟨⟨mj,hn⟩,hs⟩,hc⟩,OE⟩:=hB;have hn':n<l.length:=by simpa using hn
 have nt:(l.take n).length=n:=by simp;omega
 have CD:(l.drop n).length=l.toArray.size-n:=by simp
 have a5:HeadInv .any l.toArray n (GO l.toArray.size false) :=
  ⟨Tc2,fun j oj _ hl=>(by rw[getD_replicate_false]at hl;cases hl),fun t _ ht=>getD_in TdN (getD_replicate_false _ _)⟩
 have H:=oV (C:=C) (md:=.any) (g:=l.toArray.size-n) mj hs hc hn (l.take n) 0 _ a (fun j hj=>by
  have a7:j<n:=by rw[nt]at hj;exact hj
  simp[a7]) (by simpa using nt) a5 (by rw[nt];exact OE) h
 refine wp_region_any hm ?_;have:=iN (Q':=Q) (g:=l.toArray.size-n) (fun listed a' w' a8 hL=>by
  have:=wpAny_of_seq (md:=.any) (Q':=Q) (l.drop n) n listed a' w' (fun j=>by simp[pk]) (by rw[CD];exact hL.1) (hL.2 w' a8);rwa[CD]at this) _ _ _ w.drew hC H
 rw[nt,show n+(l.toArray.size-n)=l.toArray.size by omega]at this;exact this
theorem il(n:Nat)(hm:P.follows .mixedOrders=true)(hB:Region.lexTailB .any l.toArray n=true)
  (h:wpQuiet P l.toArray (fun w'=>∃m,w'=w.drewN m) (fun a'=>∀w',(∃m,w'=w.drewN m)->wpList P l.toArray Q (l.drop n) a' w') (l.take n) a):(Code.region id l.toArray true).wp P Q a w :=
 kM (C:=fun w'=>∃m,w'=w.drewN m) n hm hB ⟨1,rfl⟩ h
def nk(md:Region.Mode)(ops:Array Oper)(k n:Nat):Bool :=
 (FF n).all fun i=>decide (i<k)||(FF (n+1)).any fun j=>decide (i<j)&&Lo md ops j i
def Ej(md:Region.Mode)(ops:Array Oper)(listed:Array Bool):Bool :=
 (FF ops.size).all fun j=>match ops[j]? with
  |some oj=>!listed.getD j false||oj.after.all fun e=>!Region.binds md e||listed.getD e.on false
  |none=>true
def ES(listed:Array Bool)(k:Nat):Bool:=(FF k).all fun i=>listed.getD i false
def AB(listed:Array Bool)(n m:Nat):Bool:=(FF m).all fun t=>decide (t<n)||!listed.getD t true
def zS(md:Region.Mode)(ops:Array Oper)(k n:Nat)(listed:Array Bool):Bool :=
 GB ops&&decide (n<ops.size)&&decide (k<=n)&&decide (listed.size=ops.size)&&nk md ops k n&&Region.chainB md ops n&&Ej md ops listed&&ES listed k&&AB listed n ops.size&&KK md ops (ops.size-n) (n-k) k listed
def yR(h:listed.getD i false=true):listed.getD i true=true:=by
 rcases mm i listed.size with h'|h'
 ·simp[h']at h ⊢;exact h
 simp[xp h']
def Tc1{p:Prop}(h:p:=by omega):p:=h
def kH(hs:nk md ops k n=true)(hc:Region.chainB md ops n=true)(hn:n<ops.size)(inv:HeadInv md ops n listed)(hf:∀i,i<k->listed.getD i true=true) :
  ∀(d i:Nat),n-i=d->i<n->listed.getD i true=false->∀t,n<=t->t ∉ BE md ops listed:=by
 intro d;induction d using Nat.strongRecOn with
 |_ d ih =>
  intro i hd hi pN t ht hr;obtain⟨_,ot,a7,hall⟩:=mem_ready.1 hr;have UW:t<ops.size:=(DS.1 a7).1;have a9:¬i<k:=fun h=>by rw[hf i h]at pN;cases pN
  by_cases htn:t=n
  ·subst htn;have h1:=An.1 hs i (EV.2 hi);simp only[cN a9,nj]at h1;obtain⟨j,hj,a8⟩:=Ft.1 h1;simp only[eh,fk]at a8;obtain⟨oj,F0,e,he,hb,a5⟩:=A5 a8.2;have Zz:j<=t:=by have:=EV.1 hj;omega
   by_cases ZA:j=t
   ·subst ZA;have:oj=ot:=gj (F0.symm.trans a7);subst this;have h2:=hall e he hb;rw[a5,getD_both pN]at h2;cases h2
   cases hl:listed.getD j false with
   |true =>
    have h2:=inv.closed j oj F0 hl e he hb;rw[a5,getD_both pN]at h2;cases h2
   |false =>
    have ZB:j<listed.size:=by rw[inv.size];omega
    exact ih (t-j) Tc1 j rfl Tc1 (getD_in ZB hl) t (bk _) hr
  have h1:=An.1 hc t (EV.2 UW);simp only[tG,fk]at h1;rcases h1 with h1|h1
  ·omega
  obtain⟨o',aa,e,he,hb,a5⟩:=A5 h1;have:o'=ot:=gj (aa.symm.trans a7);subst this;have h2:=hall e he hb;rw[a5,getD_both (inv.tail (t-1) Tc1 Tc1)]at h2;cases h2
def sZ(hf:∀i,i<k->listed.getD i true=true):∀j,j<k->(listed.setIfInBounds i true).getD j true=true:=fun j hj=>by
 by_cases OG:i=j
 ·subst OG;rcases mm i listed.size with h'|h'
  ·simp[h']
  simp[xp (show(listed.setIfInBounds i true).size<=i by simpa using h')]
 rw[ly true OG];exact hf j hj
theorem ma(hi:ops[i]?=some oi)(mj:∀(j:Nat) (o:Oper) cs b,ops[j]?=some o->o.op≠.select cs b)
  (hs:nk md ops k n=true) (hc:Region.chainB md ops n=true) (hn:n<ops.size) (a8:i<n)
  (a5:∀listed a,L listed a->∀j∈BE md ops listed,n<=j) :
  ∀(f:Nat) (listed:Array Bool) (a:Act),HeadInv md ops n listed->(∀i,i<k->listed.getD i true=true) ->
   (∀j oj,ops[j]?=some oj->j≠i->listed.getD j true=false->(∀e∈oj.after,DQ md e=true->e.on≠i)->oi.apart ops oj=true) ->
   i∈BE md ops listed->YieldsIn P ops C oi v a ->
   iZ P md ops C n L f (listed.setIfInBounds i true) (a.put oi.dst v)->iZ P md ops C n L (f+1) listed a:=by
 intro f;induction f with
 |zero =>
  intro listed a inv hf _ hr hy H;have pN:=(mem_ready.1 hr).1;refine⟨fun h=>Tdo,fun j hj=>?_⟩;have a7:j<n:=(mm j n).elim id fun h=>absurd hj (kH hs hc hn inv hf _ i rfl a8 pN j h);refine⟨a7,?_⟩
  by_cases nr:j=i
  ·subst nr;exact hy.qOp hi H
  have:=a5 _ _ H j (ix hj nr);omega
 |succ f ih =>
  intro listed a inv hf oc hr hy H;have pN:=(mem_ready.1 hr).1;refine⟨fun h=>Tdo,fun j hj=>?_⟩;have a7:j<n:=(mm j n).elim id fun h=>absurd hj (kH hs hc hn inv hf _ i rfl a8 pN j h);refine⟨a7,?_⟩
  by_cases nr:j=i
  ·subst nr;exact hy.qOp hi H
  have h1:=(H.2 j (ix hj nr)).2;obtain⟨zj,oj,F0,hall⟩:=mem_ready.1 hj;have a9:∀e∈oj.after,DQ md e=true->e.on≠i:=fun e he hb heq=>by
   have h1:=hall e he hb;rw[heq,getD_both pN]at h1;cases h1
  have h2:=qOp_put F0 (oc j oj F0 nr zj a9) (fun cs b=>mj i oi cs b hi) (fun cs b=>mj j oj cs b F0) hy h1;have pP:∀k ok,ops[k]?=some ok->k≠i->(listed.setIfInBounds j true).getD k true=false ->
    (∀e∈ok.after,DQ md e=true->e.on≠i)->oi.apart ops ok=true:=fun k ok hk XQ pN hno=>by
   refine oc k ok hk XQ ?_ hno;by_cases hjk:j=k
   ·subst hjk;exact zj
   rw[ly true hjk]at pN;exact pN
  refine qOp_mono (fun a' h3=>ih (listed.setIfInBounds j true) a' (inv.set hj a7) (sZ hf) pP (ix hr (Ne.symm nr)) h3.1 ?_) h2;rw[FA _ _ nr];exact h3.2
def jH{k0:Nat}(mj:GB ops=true)(hs:nk md ops k0 n=true)(hc:Region.chainB md ops n=true)(hn:n<ops.size) :
  ∀(l:List Oper) (k:Nat) (listed:Array Bool) (a:Act),(∀j,j<l.length->l[j]?=ops[k+j]?)->k+l.length=n->HeadInv md ops n listed->(∀i,i<k0->listed.getD i true=true) ->
  KK md ops g l.length k listed=true->wpQuiet P ops C Lq l a ->
  iZ P md ops C n (fun a5 a'=>Is md ops g n a5=true/\Lq a') l.length listed a
 |[],k,listed,a,_,hk,_,_,hB,h=>by
  have:k=n:=by simpa using hk
  subst this;exact⟨by simpa[KK]using hB,h⟩
 |o :: l,k,listed,a,hl,hk,inv,hf0,hB,h=>by
  have h0:ops[k]?=some o:=by simpa using(hl 0 Tc2).symm
  simp only[cS,KK,eh]at hB;obtain⟨⟨hr,hf⟩,a9⟩:=hB;have a7:k<n:=by simp only[cS]at hk;omega
  have a8:k∈BE md ops listed:=by simpa using hr
  have hst:qOp P ops C k (wpQuiet P ops C Lq l) a:=by unfold qOp;simp only[h0];exact h
  obtain⟨v,hy,hK⟩:=yieldsIn_of_qOp h0 hst;exact ma h0 (XS mj) hs hc hn a7 (fun a5 a' hL=>seqB_ready hL.1) l.length listed a inv hf0 (Region.free_spec h0 hf) a8 hy
   (jH mj hs hc hn l (k+1) _ _ (fun j hj=>by have:=hl (j+1) Tc6;simpa[Nat.add_assoc,Nat.add_comm 1 j]using this) (by simp only[cS]at hk;omega) (inv.set a8 a7) (sZ hf0) a9 hK)
def zu(k n:Nat)(listed:Array Bool)(hB:zS .any l.toArray k n listed=true)(hC:C w)
  (h:wpQuiet P l.toArray C (fun a'=>∀w',C w'->wpList P l.toArray Q (l.drop n) a' w') ((l.take n).drop k) a):wpAny P .any l.toArray Q (l.length-k) listed a w:=by
 simp only[zS,eh,fk]at hB;obtain⟨⟨⟨⟨⟨⟨⟨⟨⟨mj,hn⟩,aa⟩,mu⟩,hs⟩,hc⟩,a7⟩,ZC⟩,pN⟩,OE⟩:=hB;have hn':n<l.length:=by simpa using hn
 have nt:((l.take n).drop k).length=n-k:=by simp;omega
 have CD:(l.drop n).length=l.toArray.size-n:=by simp
 have hf0:∀i,i<k->listed.getD i true=true:=fun i hi=>yR (An.1 ZC i (EV.2 hi))
 have a5:HeadInv .any l.toArray n listed:=by
  refine⟨mu,fun j oj hj hl e he hb=>?_,fun t ht a8=>?_⟩
  ·have h1:=An.1 a7 j (EV.2 (DS.1 hj).1);simp only[hj,hl,Bool.not_true,nj]at h1;have h2:=Array.all_eq_true_iff_forall_mem.1 h1 e he;simpa[hb]using h2
  have h1:=An.1 pN t (EV.2 a8);simp only[tG,fk,tz]at h1;rcases h1 with h1|h1
  ·omega
  exact h1
 have H:=jH (P:=P) (C:=C) (md:=.any) (k0:=k) (g:=l.toArray.size-n) mj hs hc hn ((l.take n).drop k) k listed a (fun j hj=>by
  have ab:j<n-k:=by rw[nt]at hj;exact hj
  simp[pk,show k+j<n by omega]) (by rw[nt];omega) a5 hf0 (by rw[nt];exact OE) h
 have:=iN (Q':=Q) (g:=l.toArray.size-n) (fun listed a' w' a9 hL=>by
  have:=wpAny_of_seq (md:=.any) (Q':=Q) (l.drop n) n listed a' w' (fun j=>by simp[pk]) (by rw[CD];exact hL.1) (hL.2 w' a9);rwa[CD]at this) _ _ _ w hC H
 rw[nt,show n-k+(l.toArray.size-n)=l.length-k by simp;omega]at this;exact this
theorem lC{o:Oper}(x:Operand)(n:Nat)(hm:P.follows .mixedOrders=true)(ho:o.op=.move x)(hg:o.guard=none)
  (a5:(GB (o :: l).toArray&&IS .any (o :: l).toArray (GO (o :: l).toArray.size false) 0&&(BE .any (o :: l).toArray (GO (o :: l).toArray.size false)).contains 0)=true)
  (hB:zS .any (o :: l).toArray 1 n ((GO (o :: l).toArray.size false).setIfInBounds 0 true)=true)
  (a7:∀c (v:Value) a w,Q (.panic c) (a.put o.dst v) w->Q (.panic c) a w) (hC:C w.drew)
  (h:wpQuiet P (o :: l).toArray C (fun a'=>∀w',C w'->wpList P (o :: l).toArray Q ((o :: l).drop n) a' w') (((o :: l).take n).drop 1) (a.put o.dst (a.eval x))):(Code.region id (o :: l).toArray true).wp P Q a w:=by
 simp only[eh]at a5;obtain⟨⟨h1,h2⟩,h3⟩:=a5;refine wp_region_any hm ?_;have hy:Yields P (o :: l).toArray o (a.eval x) a:=.inl ⟨by simp[By,hg],fun w=>by rw[BigFrame.run_move x ho]⟩;have H:=zu (P:=P) (C:=C) (Q:=Q) (w:=w.drew) 1 n _ hB hC h;exact wpAny_take (i:=0) (v:=a.eval x) (fuel:=l.length) Tc2 h1 h2 h3 (fun c=>a7 c _) hy (by simpa using H)
def TdM{p:Prop}(h:p:=by rw[ha];exact h):p:=h
theorem uk{a':Act}{o:Oper}(x:Operand)(n:Nat)(hm:P.follows .mixedOrders=true)(ho:o.op=.move x)(hg:o.guard=none)
  (a5:(GB (o :: l).toArray&&IS .any (o :: l).toArray (GO (o :: l).toArray.size false) 0&&(BE .any (o :: l).toArray (GO (o :: l).toArray.size false)).contains 0)=true)
  (hB:zS .any (o :: l).toArray 1 n ((GO (o :: l).toArray.size false).setIfInBounds 0 true)=true)
  (a7:∀c (v:Value) a w,Q (.panic c) (a.put o.dst v) w->Q (.panic c) a w) (ha:a.put o.dst (a.eval x)=a')
  (h:wpQuiet P (o :: l).toArray (fun w'=>∃m,w'=w.drewN m) (fun a'=>∀w',(∃m,w'=w.drewN m)->wpList P (o :: l).toArray Q ((o :: l).drop n) a' w') (((o :: l).take n).drop 1) a'):(Code.region id (o :: l).toArray true).wp P Q a w :=
 lC (C:=fun w'=>∃m,w'=w.drewN m) x n hm ho hg a5 hB a7 ⟨1,rfl⟩ TdM
end
variable {P:Nat->Value->Prop}{a0 a1 a2 a3 a4 a5 a6 a7 a8 a9 ab:Value}{l:List Value}
def aa{p:Prop} (h:p):Go.RowKit.Hid p:=h
def sv3    (h:∀(i:Nat) (z:Value),(a0::a1::a2::l)[i]?=some z->P i z):P 0 a0/\P 1 a1/\P 2 a2:=⟨h 0 _ rfl,h 1 _ rfl,h 2 _ rfl⟩
def sv4    (h:∀(i:Nat) (z:Value),(a0::a1::a2::a3::l)[i]?=some z->P i z):P 0 a0/\P 1 a1/\P 2 a2/\P 3 a3:=⟨h 0 _ rfl,h 1 _ rfl,h 2 _ rfl,h 3 _ rfl⟩
def sv5    (h:∀(i:Nat) (z:Value),(a0::a1::a2::a3::a4::l)[i]?=some z->P i z):P 0 a0/\P 1 a1/\P 2 a2/\P 3 a3/\P 4 a4:=⟨h 0 _ rfl,h 1 _ rfl,h 2 _ rfl,h 3 _ rfl,h 4 _ rfl⟩
def sv6    (h:∀(i:Nat) (z:Value),(a0::a1::a2::a3::a4::a5::l)[i]?=some z->P i z):P 0 a0/\P 1 a1/\P 2 a2/\P 3 a3/\P 4 a4/\P 5 a5:=⟨h 0 _ rfl,h 1 _ rfl,h 2 _ rfl,h 3 _ rfl,h 4 _ rfl,h 5 _ rfl⟩
def se    (h:∀(i:Nat) (z:Value),(a0::a1::a2::a3::a4::a5::a6::l)[i]?=some z->P i z):P 0 a0/\P 1 a1/\P 2 a2/\P 3 a3/\P 4 a4/\P 5 a5/\P 6 a6:=⟨h 0 _ rfl,h 1 _ rfl,h 2 _ rfl,h 3 _ rfl,h 4 _ rfl,h 5 _ rfl,h 6 _ rfl⟩
def sv8    (h:∀(i:Nat) (z:Value),(a0::a1::a2::a3::a4::a5::a6::a7::l)[i]?=some z->P i z):P 0 a0/\P 1 a1/\P 2 a2/\P 3 a3/\P 4 a4/\P 5 a5/\P 6 a6/\P 7 a7:=⟨h 0 _ rfl,h 1 _ rfl,h 2 _ rfl,h 3 _ rfl,h 4 _ rfl,h 5 _ rfl,h 6 _ rfl,h 7 _ rfl⟩
def xr    (h:∀(i:Nat) (z:Value),(a0::a1::a2::a3::a4::a5::a6::a7::a8::l)[i]?=some z->P i z):P 0 a0/\P 1 a1/\P 2 a2/\P 3 a3/\P 4 a4/\P 5 a5/\P 6 a6/\P 7 a7/\P 8 a8:=⟨h 0 _ rfl,h 1 _ rfl,h 2 _ rfl,h 3 _ rfl,h 4 _ rfl,h 5 _ rfl,h 6 _ rfl,h 7 _ rfl,h 8 _ rfl⟩
def IG    (h:∀(i:Nat) (z:Value),(a0::a1::a2::a3::a4::a5::a6::a7::a8::a9::l)[i]?=some z->P i z):P 0 a0/\P 1 a1/\P 2 a2/\P 3 a3/\P 4 a4/\P 5 a5/\P 6 a6/\P 7 a7/\P 8 a8/\P 9 a9:=⟨h 0 _ rfl,h 1 _ rfl,h 2 _ rfl,h 3 _ rfl,h 4 _ rfl,h 5 _ rfl,h 6 _ rfl,h 7 _ rfl,h 8 _ rfl,h 9 _ rfl⟩
def IC    (h:∀(i:Nat) (z:Value),(a0::a1::a2::a3::a4::a5::a6::a7::a8::a9::ab::l)[i]?=some z->P i z):P 0 a0/\P 1 a1/\P 2 a2/\P 3 a3/\P 4 a4/\P 5 a5/\P 6 a6/\P 7 a7/\P 8 a8/\P 9 a9/\P 10 ab:=⟨h 0 _ rfl,h 1 _ rfl,h 2 _ rfl,h 3 _ rfl,h 4 _ rfl,h 5 _ rfl,h 6 _ rfl,h 7 _ rfl,h 8 _ rfl,h 9 _ rfl,h 10 _ rfl⟩
def IE  {aa:Value}  (h:∀(i:Nat) (z:Value),(a0::a1::a2::a3::a4::a5::a6::a7::a8::a9::ab::aa::l)[i]?=some z->P i z):P 0 a0/\P 1 a1/\P 2 a2/\P 3 a3/\P 4 a4/\P 5 a5/\P 6 a6/\P 7 a7/\P 8 a8/\P 9 a9/\P 10 ab/\P 11 aa:=⟨h 0 _ rfl,h 1 _ rfl,h 2 _ rfl,h 3 _ rfl,h 4 _ rfl,h 5 _ rfl,h 6 _ rfl,h 7 _ rfl,h 8 _ rfl,h 9 _ rfl,h 10 _ rfl,h 11 _ rfl⟩
open Go.RowKit
variable {a:Act}{b B id B':Nat}{w w' W:World}{i l:List (Int × Int)}{v:Value}{P:Program}{Q:Exit->Act->World->Prop}{α:Type}{ops:Array Oper}{rest:List Oper}{q:Int × Int}
def ah{a b:Bool}(h:a=b):Ending.returned (.bool a)=.returned (.bool b):=by rw[h]
def cz{k:IntKind}{a b:Int}(h:a=b):Ending.returned (.int k a)=.returned (.int k b):=by rw[h]
def aD{cs:Array Value}{t:TypeId}{i:Nat}(hb:b=w.1.size)(h:cs[i]?=some v):(w.alloc (.cells cs t)).cell? (b,i)=some v:=by
 subst hb;have:(w.alloc (.cells cs t)).1[w.1.size]?=some (.cells cs t (0,0)):=b9 w _;unfold AN;simp only[this];simpa using h
def mn{a b c:World}(h:Below a.1.size a b)(k:Below b.1.size b c):Below a.1.size a c:=h.trans (k.mono h.size)
def aT{a:World}(h:Below B a w)(n:Nat):Below B a (w.drewN n):=⟨h.os,h.tape,h.output,h.size,h.block⟩
structure fo where
 d:Nat
 os:Array Obj
instance:Inhabited fo:=⟨⟨0,#[]⟩⟩
def ext(w:World)(p:fo):World:={ w with drawn:=p.d,heap:=w.1++p.os }
def dQ(w:World)(p:fo):Below w.1.size w (ext w p) :=
 ⟨rfl,rfl,rfl,by simp[ext],fun k hk=>by simp[ext,Array.getElem?_append,hk]⟩
def jX(h:Below w.1.size w w'):∃p:fo,w'=ext w p:=by
 refine⟨⟨w'.drawn,w'.1.extract w.1.size w'.1.size⟩,?_⟩;have hh:w'.1=w.1++w'.1.extract w.1.size w'.1.size:=by
  apply Array.ext_getElem?;intro i;rw[Array.getElem?_append];split
  ·rename_i hi;exact h.block i hi
  rename_i hi;have:=h.size;rw[Array.getElem?_extract];by_cases h2:i<w'.1.size
  ·rw[aw Tc1];congr 1;omega
  rw[bh Tc1];exact xp Tc1
 unfold ext;cases w'
 simp only[World.mk.injEq];exact⟨hh,h.tape,trivial,h.os,h.output⟩
def dY(h:∃p:fo,w'=ext w p):Below w.1.size w w':=by
 obtain⟨p,rfl⟩:=h;exact dQ w p
def aG{o:Nat}(hb:b<w.1.size)(h:w.cell? (b,o)=some v)(p:fo):(ext w p).cell? (b,o)=some v :=
 ((dQ w p).cell (p:=⟨b,o,none⟩) hb).trans h
def Tdq{p:Prop}(h:p:=by simpa using h):p:=h
theorem aU{l:List Oper}(hm:P.follows .mixedOrders=true)(hB:Region.lexB .any l.toArray=true)
  (h:wpQuiet P l.toArray (fun w'=>∃p:fo,w'=ext w p) (fun a'=>∀w',(∃p:fo,w'=ext w p)->Q .normal a' w') l a):(Code.region id l.toArray true).wp P Q a w :=
 wp_region_quiet (C:=fun w'=>∃p:fo,w'=ext w p) hm hB (jX ((bj _ w).drew)) Tdq
theorem lG{a':Act}{o:Oper}{l:List Oper}(x:Operand)(n:Nat)(hm:P.follows .mixedOrders=true)(ho:o.op=.move x)(hg:o.guard=none)
  (a5:(GB (o :: l).toArray&&IS .any (o :: l).toArray (GO (o :: l).toArray.size false) 0&&(BE .any (o :: l).toArray (GO (o :: l).toArray.size false)).contains 0)=true)
  (hB:zS .any (o :: l).toArray 1 n ((GO (o :: l).toArray.size false).setIfInBounds 0 true)=true)
  (a7:∀c (v:Value) a w,Q (.panic c) (a.put o.dst v) w->Q (.panic c) a w) (ha:a.put o.dst (a.eval x)=a')
  (h:wpQuiet P (o :: l).toArray (fun w'=>∃p:fo,w'=ext w p) (fun a'=>∀w',(∃p:fo,w'=ext w p)->wpList P (o :: l).toArray Q ((o :: l).drop n) a' w') (((o :: l).take n).drop 1) a'):(Code.region id (o :: l).toArray true).wp P Q a w :=
 lC (C:=fun w'=>∃p:fo,w'=ext w p) x n hm ho hg a5 hB a7 (jX ((bj _ w).drew)) TdM
def iH{f:FuncId}{args:Array Value}{p:fo}
  (h:Calls P f args (ext w p) fun e w'=>e=.returned v/\Below (ext w p).1.size (ext w p) w'):Calls P f args (ext w p) fun e a5=>e=.returned v/\∃p:fo,a5=ext w p :=
 h.mono fun _ _ ⟨he,hb⟩=>⟨he,jX (mn (dQ w p) hb)⟩
def ru(w:World)(b off:Nat)(l:List (Int × Int)):Prop :=
 ∀(i:Nat) (p:Int × Int),l[i]?=some p->w.cell? (b,off+i*2)=some (.int .i64 p.1)/\w.cell? (b,off+i*2+1)=some (.int .i64 p.2)
def De(l:List α)(k:Nat)(h:k<l.length):∃x,l[k]?=some x:=⟨l[k],lO h⟩
def xo(w:World)(v:Value)(l:List (Int × Int)):Prop :=
 ∃p cap,v=.slice p l.length cap/\l.length<=cap/\cap<=9223372036854775807/\(0<l.length->∃b off,p=some ⟨b,off,none⟩/\b<w.1.size/\ru w b off l)
def bU:List (Int × Int)->List Value
 |[]=>[]
 |p :: l=>.int .i64 p.1 :: .int .i64 p.2 :: bU l
def bM(w:World)(B:Nat)(v:Value)(l:List (Int × Int)):Prop:=w.ownsRow B 55 2 v l.length (bU l)
def gJ(a b:List (Int × Int)):bU (a++b)=bU a++bU b:=by
 induction a with
 |nil=>rfl
 |cons p a ih=>simp[bU,ih]
def dx(a:List (Int × Int)):(bU a).length=a.length*2:=by
 induction a with
 |nil=>rfl
 |cons p a ih=>simp[bU,ih];omega
def kr(l:List (Int × Int)):∀(i:Nat) (p:Int × Int),l[i]?=some p->(bU l)[i*2]?=some (.int .i64 p.1)/\(bU l)[i*2+1]?=some (.int .i64 p.2):=by
 induction l with
 |nil=>intro i p h;simp at h
 |cons q l ih =>
  intro i p h;cases i with
  |zero=>simp at h;subst h;simp[bU]
  |succ i =>
   have:=ih i p Tdq;rw[show(i+1)*2=i*2+1+1 from by omega];simpa[bU]using this
def qI(l:List (Int × Int)):∀u∈bU l,u.oneCell'=true:=by
 induction l with
 |nil=>intro u h;cases h
 |cons p l ih =>
  intro u h;simp[bU]at h;rcases h with rfl|rfl|h
  ·rfl
  ·rfl
  exact ih u h
def TcC{p:Prop}(h:p:=by
 exact⟨none,0,by rw[hn],Tc1,Tc1,fun h=>absurd h Tc1⟩):p:=h
def Tdj{p:Prop}(h:p:=by unfold maxLen at hcm;omega):p:=h
def bM.rd(h:bM w B v l):xo w v l:=by
 obtain⟨h1,h2⟩:=h;rcases h2 with⟨rfl,hn⟩|⟨g,cap,a5,rfl,hb,hg,vr,hcm,a7,ht⟩
 ·exact TcC
 refine⟨some ⟨g,0,none⟩,cap,rfl,vr,Tdj,fun _=>⟨g,0,rfl,(DS.1 hg).1,fun i p hp=>?_⟩⟩;have hc:=kr l i p hp;have a8:i<l.length:=(AT.1 hp).1;rw[<- ht]at hc;rw[ri Tc1,ri Tc1]at hc;refine⟨?_,?_⟩
 ·rw[cell_of_row w g (0+i*2) a5 _ (0,0) hg,eJ];simpa using hc.1
 rw[cell_of_row w g (0+i*2+1) a5 _ (0,0) hg,eJ];simpa using hc.2
def ru.below(hb:Below W.1.size W w){off:Nat}(hbl:b<W.1.size)(h:ru W b off l):ru w b off l:=fun i p hp=>by
 have:=h i p hp;rw[hb.cell (p:=⟨b,off+i*2,none⟩) hbl,hb.cell (p:=⟨b,off+i*2+1,none⟩) hbl];exact this
def TbD{p:Prop}(h:p:=by
 obtain⟨p,cap,hv,hl,hc,hp⟩:=h;exact⟨p,cap,hv,hl,hc,fun h0=>by obtain⟨b,off,e,hbl,hcc⟩:=hp h0;exact⟨b,off,e,cC hbl hb.size,hcc.below hb hbl⟩⟩):p:=h
def xo.below(h:xo W v l)(hb:Below W.1.size W w):xo w v l:=by
 exact TbD
def Tbs{p:Prop}(h:p:=by
 obtain⟨h1,h2⟩:=h;refine⟨h1,?_⟩;rcases h2 with hn|⟨g,cap,cur,hv,pC,hg,r⟩
 ·exact .inl hn
 exact .inr ⟨g,cap,cur,hv,pC,by rw[hb.block g (Array.getElem?_eq_some_iff.1 hg).1];exact hg,r⟩):p:=h
def bM.below(h:bM W B v l)(hb:Below W.1.size W w):bM w B v l:=by
 exact Tbs
def bM.nil(w:World)(B:Nat):bM w B (.slice none 0 0) []:=gS w B _ 2
def TcS{p:Prop}(h:p:=by
 rcases h2 with hn|⟨g,cap,cur,hv,pC,r⟩
 ·exact .inl hn
 exact .inr ⟨g,cap,cur,hv,Tc1,r⟩):p:=h
def TbM{p:Prop}(h:p:=by
 obtain⟨h1,h2⟩:=h;refine⟨h1,?_⟩;exact TcS):p:=h
def bM.mono(h:bM w B v l)(hB:B'<=B):bM w B' v l:=by
 exact TbM
def xo.nil(w:World):xo w (.slice none 0 0) []:=⟨none,0,rfl,Tc2,Tc1,fun h=>absurd h Tc2⟩
def ig(w:World)(b off:Nat)(l:List Int):Prop:=∀(i:Nat) (n:Int),l[i]?=some n->w.cell? (b,off+i)=some (.int .i64 n)
def Hs(w:World)(v:Value)(l:List Int):Prop :=
 ∃p cap,v=.slice p l.length cap/\l.length<=cap/\cap<=9223372036854775807/\(0<l.length->∃b off,p=some ⟨b,off,none⟩/\b<w.1.size/\ig w b off l)
def eG(w:World)(B:Nat)(v:Value)(l:List Int):Prop:=w.ownsRow B 3 1 v l.length (l.map (Bm .i64))
def eG.rd{l:List Int}(h:eG w B v l):Hs w v l:=by
 obtain⟨h1,h2⟩:=h;rcases h2 with⟨rfl,hn⟩|⟨g,cap,a5,rfl,hb,hg,vr,hcm,a7,ht⟩
 ·exact TcC
 refine⟨some ⟨g,0,none⟩,cap,rfl,vr,Tdj,fun _=>⟨g,0,rfl,(DS.1 hg).1,fun i p hp=>?_⟩⟩;have a8:i<l.length:=(AT.1 hp).1;have hc:(l.map (Bm .i64))[i]?=some (Bm .i64 p):=by simp[hp]
 rw[<- ht,ri Tc1]at hc;rw[cell_of_row w g (0+i) a5 _ (0,0) hg,eJ];simpa using hc
def ig.below(hb:Below W.1.size W w){off:Nat}{l:List Int}(hbl:b<W.1.size)(h:ig W b off l):ig w b off l:=fun i p hp=>by
 rw[hb.cell (p:=⟨b,off+i,none⟩) hbl];exact h i p hp
def Hs.below{l:List Int}(h:Hs W v l)(hb:Below W.1.size W w):Hs w v l:=by
 exact TbD
def eG.below{l:List Int}(h:eG W B v l)(hb:Below W.1.size W w):eG w B v l:=by
 exact Tbs
def eG.mono{l:List Int}(h:eG w B v l)(hB:B'<=B):eG w B' v l:=by
 exact TbM
def eG.nil(w:World)(B:Nat):eG w B (.slice none 0 0) []:=gS w B _ 1
def Hs.nil(w:World):Hs w (.slice none 0 0) []:=⟨none,0,rfl,Tc2,Tc1,fun h=>absurd h Tc2⟩
def DT:(prog.info? 55).map (fun i=>(i.zero,i.size,i.bytes))=some (some (.agg #[.int .i64 0,.int .i64 0]),2,16):=by kernel_rfl
def tZ:(prog.info? 3).map (fun i=>(i.zero,i.size,i.bytes))=some (some (.int .i64 0),1,8):=by kernel_rfl
def Tc4{p:Prop}(h:p:=by decide):p:=h
def Tda{p:Prop}(h:p:=by unfold maxLen;omega):p:=h
def jg{o:Oper}(a7:o.guard=none)(s x:Operand)
  (ho:o.op=.call { callee:=.builtin .append,args:=#[s,x],argTypes:=#[43,43] })
  (B:Nat) (v:Value) (l:List (Int × Int)) (p:Int × Int) (hs:a.eval s=v) (a5:bM w B v l) (g c:Nat) (hx:a.eval x=.slice (some g) 1 c)
  (a8:w.cell? g=some (.int .i64 p.1)) (zc:w.cell? (Tac g 1)=some (.int .i64 p.2)) (hl:l.length<=100000000) (hB:B<=w.1.size)
  (h:∀v' w',bM w' B v' (l++[p])->Below B w w'->w.grownBy w' v.ownBlock->wpList prog ops Q rest (a.put o.dst v') w'):wpList prog ops Q (o :: rest) a w:=by
 obtain⟨i0,hi,du,On,RC⟩:=gg DT;refine tE w a7 s x 43 ho B 55 i0 _ 2 16 underlying43 hi du On RC rfl Tc4 v l.length (bU l) hs a5 ⟨g,0,none⟩ 1 c (bU [p]) hx rfl (fun j u hu=>?_) (qI _) Tda Tc1 hB (fun v' w' a9 hg _=>?_)
 ·rw[iz,eJ]
  match j,hu with
  |0,hu=>simp[bU]at hu;rw[<- hu];exact a8
  |1,hu=>simp[bU]at hu;rw[<- hu];exact zc
  |j+2,hu=>simp[bU]at hu
 refine h v' w' ?_ ((bj B w).grown hg hB (fun k hk=>(a5.lt k hk).1)) hg;unfold bM;rw[gJ,cD];exact a9
def ve{o:Oper}(a7:o.guard=none)(s x:Operand)
  (ho:o.op=.call { callee:=.builtin .append,args:=#[s,x],argTypes:=#[22,22] })
  (B:Nat) (v:Value) (l:List Int) (p q:Int) (hs:a.eval s=v) (a5:eG w B v l) (g c:Nat) (hx:a.eval x=.slice (some g) 2 c)
  (a8:w.cell? g=some (.int .i64 p)) (zc:w.cell? (Tac g 1)=some (.int .i64 q)) (hl:l.length<=100000000) (hB:B<=w.1.size)
  (h:∀v' w',eG w' B v' (l++[p,q])->Below B w w'->wpList prog ops Q rest (a.put o.dst v') w'):wpList prog ops Q (o :: rest) a w:=by
 obtain⟨i0,hi,du,On,RC⟩:=gg tZ;refine tE w a7 s x 22 ho B 3 i0 _ 1 8 underlying22 hi du On RC rfl Tc4 v l.length (l.map (Bm .i64)) hs a5 ⟨g,0,none⟩ 2 c [.int .i64 p,.int .i64 q] hx rfl (fun j u hu=>?_) (fun u hu=>by simp at hu;rcases hu with rfl|rfl<;>rfl) Tda Tc1 hB (fun v' w' a9 hg _=>?_)
 ·rw[iz,eJ]
  match j,hu with
  |0,hu=>simp at hu;rw[<- hu];exact a8
  |1,hu=>simp at hu;rw[<- hu];exact zc
  |j+2,hu=>simp at hu
 refine h v' w' ?_ ((bj B w).grown hg hB (fun k hk=>(a5.lt k hk).1));unfold eG;rw[gl,cD];exact a9
def bM.last(h:bM w B v (i++[q])) :
  ∃g cap,v=.slice (some ⟨g,0,none⟩) (i.length+1) cap/\B<=g/\g<w.1.size/\i.length+1<=cap/\cap<=9223372036854775807 /\
   w.cell? (g,i.length*2)=some (.int .i64 q.1)/\w.cell? (g,i.length*2+1)=some (.int .i64 q.2)/\w.frozen? (g,i.length*2+1)=false /\
   ∀z:Int,bM (w.setCell (g,i.length*2+1) (.int .i64 z)) B v (i++[(q.1,z)]):=by
 have hl:(i++[q]).length=i.length+1:=by simp
 unfold bM at h;rw[hl]at h;rcases h.2 with⟨_,hn⟩|⟨g,cap,a5,rfl,hb,hg,vr,hcm,a7,ht⟩
 ·omega
 have QE:=kr (i++[q]) i.length q Tc2;refine⟨g,cap,rfl,hb,(DS.1 hg).1,vr,Tdj,?_,?_,h.frozenAt _,fun z=>?_⟩
 ·rw[h.cellAt _ Tc1];exact QE.1
 ·rw[h.cellAt _ Tc1];exact QE.2
 have h2:=(h.stored (i.length*2+1) (.int .i64 z)).1;unfold bM;rw[show(i++[(q.1,z)]).length=i.length+1 from by simp];have e:(bU (i++[q])).set (i.length*2+1) (.int .i64 z)=bU (i++[(q.1,z)]):=by
  rw[gJ,gJ,List.set_append_right _ _ (by rw[dx];omega),dx,show i.length*2+1-i.length*2=1 from by omega];rfl
 rw[e]at h2;exact h2
def bM.setLast{g n cap:Nat}(h:bM w B (.slice (some g) n cap) (i++[q]))(z:Int) :
  bM (w.setCell (g,i.length*2+1) (.int .i64 z)) B (.slice (some g) n cap) (i++[(q.1,z)]):=by
 obtain⟨g',a5,e,_,_,_,_,_,_,_,hst⟩:=h.last;cases e
 exact hst z
def aj(l:List α)(k:Nat)(h:k<l.length):∃x,l[k]?=some x:=⟨l[k],lO h⟩
def take_snoc'(l:List α)(k:Nat)(x:α)(h:l[k]?=some x):l.take (k+1)=l.take k++[x]:=by
 obtain⟨hk,rfl⟩:=AT.1 h;exact af1 hk
def nT(s l:Int):Bool:=decide (0<=s)&&decide (0<=l)&&decide (s<=1073741824)&&decide (l<=1073741824-s)
def dI(l:List (Int × Int)):Bool:=l.all fun p=>nT p.1 p.2
def ai  {o:Nat}  (hb:w'.1[b]?=w.1[b]?) (h:w.cell? (b,o)=some v):w'.cell? (b,o)=some v:=(cd (a:=⟨b,o,none⟩) hb).trans h
def bK  {o:Nat}  (hb:w'.1[b]?=w.1[b]?) (h:w.cell? (b,o+0)=some v):w'.cell? (b,o)=some v:=(cd (a:=⟨b,o,none⟩) hb).trans h
open Go.ChangeShapes Go.WideShapes Go.ChangeAt
variable {H α:Type}{W a w w' w1 w2:World}{n b B i sz bs bb k d nb ki N:Nat}{v nv vv:Value}{p:Addr}{F G ok' X:Nat->Prop}{cs:Array Value}{t:TypeId}{z:Int}{xs:List Value}
def Tryz.laidOut:laidOutB prog=true:=by kernel_rfl
def lJ{enc:TypeId × Value->H}{W':World}(hb:Below W.1.size W W'):∀(ts:List TypeId) (vs:List Value) (ds:List (DataW H)) (ps:List MemPlace),
  DataW.TrodAll enc prog W 0 (fun _=>true) true ts vs ds ps->(∀t∈ts,prog.readableRec t=true/\t<prog.types.size)->(∀x∈ps,x.block<W.1.size) ->
  DataW.TrodAll enc prog W' 0 (fun b=>decide (b<W.1.size)) true ts vs ds ps
 |[],vs,ds,ps,h,_,_=>by
  obtain⟨rfl,rfl,rfl⟩:=trodAll_nil h;exact trodAll_mk0
 |t :: ts,vs,ds,ps,h,ht,hlt=>by
  obtain⟨v,a5,d,a7,p,q,rfl,rfl,rfl,h1,h2⟩:=trodAll_cons h;obtain⟨ha,a8⟩:=ht t Tc2;exact trodAll_cons_mk (Below.trod Tryz.laidOut ha a8 h1 hb (fun x hx=>hlt x (by simp[hx]))) (lJ hb ts a5 a7 q h2 (fun t' h'=>ht t' (by simp[h'])) (fun x hx=>hlt x (by simp[hx])))
def wf_i64{n:Int}(h:(Lit.int .i64 n).wf=true):-9223372036854775808<=n/\n<=9223372036854775807:=by
 have h1:IntKind.i64.min=-9223372036854775808:=rfl;have h2:IntKind.i64.max=9223372036854775807:=rfl;simp[Lit.wf,h1,h2]at h;exact h
def TdO{p:Prop}(h:p:=by simpa using h0):p:=h
def Tc3{p:Prop}(h:p:=by kernel_rfl):p:=h
def Fw{enc:TypeId × Value->H}{base:Nat}{d:DataW H}{p:List MemPlace}(hv:Value.okWide prog W .any base 22 v)
  (h:DataW.Trod enc prog W 0 (fun _=>true) true 22 v d p) :
  ∃l,Hs W v l/\∀q∈l,-9223372036854775808<=q/\q<=9223372036854775807:=by
 obtain⟨a0,a5,a8,rfl⟩:=okWide_slice underlying22 hv;obtain⟨fuel,hf⟩:=h;rcases Go.Deep.open_slice1 underlying22 Tc3 hf with⟨a7,_⟩|⟨a,len,cap,m,n,V,D,Pl,a7,_,hl,hm,ZE,_,hi⟩
 ·simp[Value.cells]at a7;obtain⟨rfl,rfl,rfl⟩:=a7;exact⟨[],Hs.nil W,Tc2⟩
 simp[Value.cells]at a7;obtain⟨rfl,rfl,rfl⟩:=a7;simp only[ej]at ZE;have key:∀i,i<a5->∃q:Int,W.cell? (a.add i)=some (.int .i64 q)/\-9223372036854775808<=q/\q<=9223372036854775807:=fun i a9=>by
  obtain⟨c0,t0⟩:=hi i Tc1;obtain⟨x,e0,_,w0⟩:=DataW.trod_int underlying3 t0;simp only[rp,and_true]at e0;rw[e0]at c0;exact⟨x,c0,wf_i64 w0⟩
 obtain⟨q,hq⟩:=Go.Deep.choose_lt key;refine⟨(FF a5).map q,⟨some a,a8,Tc2,by simpa using hl,by unfold maxLen at hm;omega,fun h0=>?_⟩,fun r hr=>?_⟩
 ·obtain⟨b,off,aa⟩:=a;have ab:=(hq 0 TdO).1;have hs:aa=none:=by simpa[Addr.add]using World.cell?_spot ab
  subst hs;refine⟨b,off,rfl,cP W _ ab,fun i p hp=>?_⟩;have a9:i<a5:=by simpa using(AT.1 hp).1
  have ae:q i=p:=by simpa[a9]using hp
  have hh:=hq i a9;rw[ae,iz]at hh;exact hh.1
 rw[As]at hr;obtain⟨i,hi',rfl⟩:=hr;exact(hq i (EV.1 hi')).2
structure cR(F:Nat->Prop)(w w':World):Prop where
 os:w'.os=w.os
 tape:w'.tape=w.tape
 output:w'.output=w.output
 size:w.heap.size<=w'.heap.size
 block:∀k,k<w.heap.size->¬F k->w'.heap[k]?=w.heap[k]?
def cR.refl(F:Nat->Prop)(w:World):cR F w w:=⟨rfl,rfl,rfl,bk _,fun _ _ _=>rfl⟩
def cR.trans{b c:World}(h:cR F a b)(k:cR G b c)(hG:∀i,G i->F i\/a.1.size<=i):cR F a c :=
 ⟨k.os.trans h.os,k.tape.trans h.tape,k.output.trans h.output,cA h.size k.size,fun i hi hF=>(k.block i (cC hi h.size) (fun g=>(hG i g).elim hF Tc1)).trans (h.block i hi hF)⟩
def cR.of_below{b:World}(h:Below a.1.size a b):cR F a b:=⟨h.os,h.tape,h.output,h.size,fun i hi _=>h.block i hi⟩
def cR.cell(h:cR F w w')(hp:p.block<w.1.size)(hF:¬F p.block):w'.cell? p=w.cell? p:=cd (w:=w) (h.block p.block hp hF)
def Tdd{p:Prop}(h:p:=by simp[World.setCell]):p:=h
def cR.setCell(h:cR F a w)(hp:F p.block\/a.1.size<=p.block)(u:Value):cR F a (w.setCell p u) :=
 h.trans (G:=fun k=>k=p.block) ⟨rfl,rfl,rfl,Tdd,fun k _ hne=>bw _ _ _ _ hne⟩ (fun i e=>by subst e;exact hp)
def cR.drewN(h:cR F a w)(n:Nat):cR F a (w.drewN n):=⟨h.os,h.tape,h.output,h.size,h.block⟩
def cR.below(h:cR F w w')(hB:B<=w.1.size)(hF:∀k,F k->B<=k):Below B w w' :=
 ⟨h.os,h.tape,h.output,h.size,fun k hk=>h.block k Tc1 (fun f=>by have:=hF k f;omega)⟩
def cR.mono(h:cR F w w')(ZF:∀k,F k->G k):cR G w w':=⟨h.os,h.tape,h.output,h.size,fun k hk hn=>h.block k hk (fun f=>hn (ZF k f))⟩
def Teo{p:Prop}(h:p:=by simpa using hlt):p:=h
def block_setCell{z:Nat × Nat}(u:Value)(h:w.1[b]?=some (.cells cs t z)):(w.setCell (b,i) u).1[b]?=some (.cells (cs.setIfInBounds i u) t z):=by
 have hlt:=aq h;have h':w.1[b]=.cells cs t z:=by simpa[aa0 hlt]using h
 show(w.1.modify b _)[b]?=_;rw[aa0 Teo,Array.getElem_modify_self,h'];rfl
def Dq(w:World)(b:Nat)(l:List Int)(k:Nat):Prop :=
 ∃p cap,w.1[b]?=some (.cells #[.slice p l.length cap,.int .i64 k] 57 (0,0))/\k<=l.length/\l.length<=1000/\l.length<=cap/\cap<=9223372036854775807 /\
  (∀x∈l,-9223372036854775808<=x/\x<=9223372036854775807)/\(0<l.length->∃g off,p=some ⟨g,off,none⟩/\g<b/\ig w g off l)
def Src(w:World)(b:Nat):Prop:=∃l k,Dq w b l k
def CZ(lo hi:Int)(b:Nat)(w:World)(e:Ending)(w':World):Prop:=∃v:Int,e=.returned (.int .i64 v)/\lo<=v/\v<=hi/\(∃l k,Dq w' b l k)/\cR (fun i=>i=b) w w'
def EB(b k:Nat)(l:List Int)(w:World)(h:Dq w b l k) :
  Calls prog 51 #[.pointer (some b)] w (CZ (-9223372036854775808) 9223372036854775807 b w):=by
 obtain⟨p,cap,hb,hk,hl,a5,ij,hi,hp⟩:=h;have hc0:=cr hb 0 _ rfl;have a7:=cr hb 1 _ rfl;have a8:w.frozen? (Tac b 1)=false:=by simp[BT,hb]
 have gO:b<w.1.size:=aq hb;replace hb:=aa hb;replace hp:=aa hp;replace hi:=aa hi;by_cases hlt:k<l.length
 ·obtain⟨g,off,rfl,hgb,hc⟩:=hp.o Tc1;have hg:g<w.1.size:=by omega
  have OH:g≠b:=by omega
  obtain⟨x,hx⟩:=aj l k hlt;have OI:=hc k x hx;replace hx:=aa hx;replace hc:=aa hc;have hd:decide (l.length<=k)=false:=by simp;omega
  go_enter func51,ntmps51;go_wp2;go_quiet (fail);go_wp2;go_quiet (fail);go_wp2;go_ret;have QF:=hi.o x (ct hx.o);refine⟨x,rfl,QF.1,QF.2,⟨l,k+1,some ⟨g,off,none⟩,cap,?_,Tc1,hl,a5,ij,hi.o,fun _=>⟨g,off,rfl,hgb,fun i n hn=>?_⟩⟩,?_⟩
  ·exact block_setCell (w:=w.drewN _) (cs:=#[_,(k:Int)]) (i:=1) _ hb.o
  ·exact(cd (w:=w) (bw _ _ _ _ OH)).trans (hc.o i n hn)
  exact(((cR.refl (fun i=>i=b) w).drewN _).setCell (p:=⟨b,1,none⟩) (.inl rfl) _).drewN _
 have hd:decide (l.length<=k)=true:=by simp;omega
 go_enter func51,ntmps51;go_wp2;go_quiet (fail);go_wp2;go_ret;exact⟨0,rfl,Tc1,Tc1,⟨l,k,p,cap,hb.o,hk,hl,a5,ij,hi.o,hp.o⟩,(cR.refl _ w).drewN _⟩
def bY(b:Nat)(n:Int)(w:World)(hn1:1<=n)(hn2:n<=1000000)(h:Src w b) :
  Calls prog 15 #[.pointer (some b),.int .i64 n] w (CZ 0 (n-1) b w):=by
 obtain⟨l,k,h⟩:=h;go_enter func15,ntmps15
 go_wp2_with fail;refine(EB b k l _ h).mono ?_;rintro e w1 ⟨v,rfl,a5,a7,hs,hm⟩;have a8:=Int.tmod_lt_of_pos v (show 0<n by omega);have a9:=Int.lt_tmod_of_pos v (show 0<n by omega);go_wp2
 all_goals
  go_ret;refine⟨_,rfl,?_,?_,hs,hm⟩<;>omega
def bO(b:Nat)(lo hi:Int)(w:World)(h1:0<=lo)(h2:lo<=hi)(h3:hi<=100000)(h:Src w b) :
  Calls prog 18 #[.pointer (some b),.int .i64 lo,.int .i64 hi] w (CZ lo hi b w):=by
 go_enter func18,ntmps18
 go_wp2_with fail;refine(bY b _ _ Tc1 Tc1 h).mono ?_;rintro e w1 ⟨v,rfl,a5,a7,hs,hm⟩;go_wp2;go_ret;exact⟨_,rfl,Tc1,Tc1,hs,hm⟩
def Fy(l:List Int)(b:Nat)(w:World)(e:Ending)(w':World):Prop:=∃v:Int,e=.returned (.int .i64 v)/\v∈l/\Src w' b/\cR (fun i=>i=b) w w'
def jD(b g cap:Nat)(l:List Int)(w:World)(h0:0<l.length)(h1:l.length<=1000)(a5:l.length<=cap)(a7:cap<=9223372036854775807)(hg:g<w.1.size)(hgb:g≠b)(hc:ig w g 0 l)(h:Src w b) :
  Calls prog 16 #[.pointer (some b),.slice (some g) l.length cap] w (Fy l b w):=by
 replace hc:=aa hc;go_enter func16,ntmps16
 go_wp2_with fail;refine(bY b _ _ Tc1 Tc1 h).mono ?_;rintro e w1 ⟨v,rfl,a8,a9,hs,hm⟩;obtain⟨k,rfl⟩:=D4 a8;obtain⟨x,hx⟩:=aj l k Tc1;have OI:w1.cell? (g,k)=some (.int .i64 x):=by
  rw[hm.cell hg hgb];simpa using hc.o k x hx
 replace hx:=aa hx;have Vk:k<l.length:=by omega
 go_wp2;go_ret;exact⟨x,rfl,ct hx.o,hs,hm⟩
def ED(l:List Int)(v:Value)(w:World)(h:Hs w v l)(hl:∀x∈l,-9223372036854775808<=x/\x<=9223372036854775807) :
  Calls prog 5 #[v] w fun e w'=>e=.returned (.pointer (some w.1.size))/\Src w' w.1.size/\w.1.size<w'.1.size/\Below w.1.size w w':=by
 obtain⟨p,cap,rfl,a5,ij,hp⟩:=h;replace hp:=aa hp;replace hl:=aa hl;by_cases hlt:1000<l.length
 ·obtain⟨g,off,rfl,hg,hc⟩:=hp.o Tc1;replace hc:=aa hc;have a7:¬cap=1000:=by omega
  have kB:1000<=cap:=by omega
  go_enter func5,ntmps5;go_wp2;go_ret;refine⟨rfl,⟨l.take 1000,0,some ⟨g,off,none⟩,cap,?_,Tc1,Tc6,Tc6,ij,fun x hx=>hl.o x (tR hx),fun _=>⟨g,off,rfl,hg,fun i n hn=>?_⟩⟩,Tc2,?_⟩
  ·rw[b9,ey,Nat.min_eq_left Tc1];rfl
  ·have hi:i<1000:=by have:=(AT.1 hn).1;simp at this;omega
   rw[ri hi]at hn;exact(cd (w:=w) (cj _ _ _ hg)).trans (hc.o i n hn)
  exact(bj _ _).alloc (bk _) _
 go_enter func5,ntmps5
 go_wp2;go_ret;refine⟨rfl,⟨l,0,p,cap,?_,Tc1,Tc1,a5,ij,hl.o,fun h0=>?_⟩,Tc2,?_⟩
 ·rw[b9];rfl
 ·obtain⟨g,off,e,hg,hc⟩:=hp.o h0;exact⟨g,off,e,hg,fun i n hn=>(cd (w:=w) (cj _ _ _ hg)).trans (hc i n hn)⟩
 exact(bj _ _).alloc (bk _) _
def Src.keep(h:Src w b)(hk:∀i,i<=b->w'.1[i]?=w.1[i]?):Src w' b:=by
 obtain⟨l,k,p,cap,hb,h1,h2,h3,h4,h5,hp⟩:=h;refine⟨l,k,p,cap,(hk b (bk _)).trans hb,h1,h2,h3,h4,h5,fun h0=>?_⟩;obtain⟨g,off,e,hg,hc⟩:=hp h0;exact⟨g,off,e,hg,fun i n hn=>(cd (w:=w) (hk g Tc1)).trans (hc i n hn)⟩
def Src.lt(h:Src w b):b<w.1.size:=by
 obtain⟨l,k,p,cap,hb,_⟩:=h;exact aq hb
structure aR where
 vol:Bool
 on:ByteArray
 start:Int
structure aB where
 start:Int
 length:Int
 kind:Int
 Ga:List aR
 chunk:Int
 stale:List Int
 log:ByteArray
 pool:ByteArray
 device:Int
 mode:Int
 done:Int
structure ay where
 name:ByteArray
 id:Int
 hidden:Bool
 ro:Bool
 tags:List ByteArray
 Gf:List aB
structure az where
 name:ByteArray
 id:Int
 first:Int
 Gc:Int
 closed:Bool
 missing:Bool
 tags:List ByteArray
structure af where
 name:ByteArray
 id:Int
 seq:Int
 Gd:Int
 next:Int
 tags:List ByteArray
 Gb:List az
 F9:List ay
 history:List (ByteArray × Int × Int)
abbrev jx(α:Type):=(Nat->Prop)->World->List Value->α->Prop
def oh{α:Type}(V:jx α)(sz:Nat)(ok:Nat->Prop)(w:World)(b off:Nat)(l:List α):Prop :=
 ∀(i:Nat) (x:α),l[i]?=some x->∃u:List Value,u.length=sz/\V ok w u x/\∀(j:Nat) (z:Value),u[j]?=some z->w.cell? (b,off+i*sz+j)=some z
def ck{α:Type}(V:jx α)(sz:Nat):jx (List α):=fun ok w vs l =>
 ∃p cap,vs=[.slice p l.length cap]/\l.length<=cap/\cap<=9223372036854775807/\(0<l.length->∃b off,p=some ⟨b,off,none⟩/\b<w.1.size/\ok b/\oh V sz ok w b off l)
def cO:jx Int:=fun _ _ vs x=>vs=[.int .i64 x]
def aF:jx ByteArray:=fun _ _ vs x=>vs=[.string x]
def aQ:jx aR:=fun _ _ vs x=>vs=[.bool x.vol,.string x.on,.int .i64 x.start]
def bC:jx aB:=fun ok w vs x=>∃a s,vs=[.int .i64 x.start,.int .i64 x.length,.int .i64 x.kind,a,.int .i64 x.chunk,s,.string x.log,.string x.pool,.int .i64 x.device,.int .i64 x.mode,.int .i64 x.done] /\
 ck aQ 3 ok w [a] x.Ga/\ck cO 1 ok w [s] x.stale
def aN:jx ay:=fun ok w vs x=>∃t s,vs=[.string x.name,.int .u64 x.id,.bool x.hidden,.bool x.ro,t,s]/\ck aF 1 ok w [t] x.tags/\ck bC 11 ok w [s] x.Gf
def aO:jx az:=fun ok w vs x=>∃t,vs=[.string x.name,.int .u64 x.id,.int .i64 x.first,.int .i64 x.Gc,.bool x.closed,.bool x.missing,t]/\ck aF 1 ok w [t] x.tags
def lF:jx (ByteArray × Int × Int):=fun _ _ vs x=>vs=[.string x.1,.int .u64 x.2.1,.int .i64 x.2.2]
def EU:jx af:=fun ok w vs x=>∃t d v h,vs=[.string x.name,.int .u64 x.id,.int .i64 x.seq,.int .i64 x.Gd,.int .i64 x.next,t,d,v,h] /\
 ck aF 1 ok w [t] x.tags/\ck aO 7 ok w [d] x.Gb/\ck aN 6 ok w [v] x.F9/\ck lF 3 ok w [h] x.history
def Mv(ok ok':Nat->Prop)(w w':World):Prop:=w.1.size<=w'.1.size/\∀b,b<w.1.size->ok b->ok' b/\w'.1[b]?=w.1[b]?
structure Moves{α:Type}(V:jx α):Prop where
 mv:∀ {ok ok':Nat->Prop} {w w':World} {u:List Value} {x:α},Mv ok ok' w w'->V ok w u x->V ok' w' u x
def oh.moves{V:jx α}(hV:Moves V){ok:Nat->Prop}{off:Nat}{l:List α}(hm:Mv ok ok' w w')(hb:b<w.1.size)(ho:ok b)(h:oh V sz ok w b off l):oh V sz ok' w' b off l:=fun i x hx=>by
 obtain⟨u,hu,hv,hc⟩:=h i x hx;exact⟨u,hu,hV.mv hm hv,fun j z hz=>(cd (w:=w) (hm.2 b hb ho).2).trans (hc j z hz)⟩
def ck.moves{V:jx α}(hV:Moves V):Moves (ck V sz):=⟨fun hm h=>by
 obtain⟨p,cap,e,h1,h2,h3⟩:=h;refine⟨p,cap,e,h1,h2,fun h0=>?_⟩;obtain⟨b,off,ep,hb,ho,hc⟩:=h3 h0;exact⟨b,off,ep,cC hb hm.1,(hm.2 b hb ho).1,hc.moves hV hm hb ho⟩⟩
def cO.moves:Moves cO:=⟨fun _ h=>h⟩
def aF.moves:Moves aF:=⟨fun _ h=>h⟩
def aQ.moves:Moves aQ:=⟨fun _ h=>h⟩
def lF.moves:Moves lF:=⟨fun _ h=>h⟩
def bC.moves:Moves bC:=⟨fun hm ⟨a,s,e,h1,h2⟩=>⟨a,s,e,(ck.moves aQ.moves).mv hm h1,(ck.moves cO.moves).mv hm h2⟩⟩
def aN.moves:Moves aN:=⟨fun hm ⟨t,s,e,h1,h2⟩=>⟨t,s,e,(ck.moves aF.moves).mv hm h1,(ck.moves bC.moves).mv hm h2⟩⟩
def aO.moves:Moves aO:=⟨fun hm ⟨t,e,h1⟩=>⟨t,e,(ck.moves aF.moves).mv hm h1⟩⟩
def Flat{α:Type}(V:jx α)(sz:Nat)(ok:Nat->Prop)(w:World):List Value->List α->Prop
 |cs,[]=>cs=[]
 |cs,x :: l=>∃u r,cs=u++r/\u.length=sz/\V ok w u x/\(∀z∈u,z.oneCell'=true)/\Flat V sz ok w r l
def bF{α:Type}(V:jx α)(sz:Nat)(t:TypeId)(B:Nat)(ok:Nat->Prop)(w:World)(v:Value)(l:List α):Prop:=∃cs,w.ownsRow B t sz v l.length cs/\Flat V sz ok w cs l
def Flat.moves{V:jx α}(hV:Moves V){ok:Nat->Prop}(hm:Mv ok ok' w w'):∀(l:List α) (cs:List Value),Flat V sz ok w cs l->Flat V sz ok' w' cs l
 |[],_,h=>h
 |_ :: l,_,⟨u,r,e,h1,h2,h3,h4⟩=>⟨u,r,e,h1,hV.mv hm h2,h3,Flat.moves hV hm l r h4⟩
def Flat.append{V:jx α}{ok:Nat->Prop}{m:List α}{ds:List Value}(k:Flat V sz ok w ds m):∀(l:List α) (cs:List Value),Flat V sz ok w cs l->Flat V sz ok w (cs++ds) (l++m)
 |[],cs,h=>by
  simp only[Flat]at h;subst h;exact k
 |_ :: l,_,⟨u,r,e,h1,h2,h3,h4⟩=>⟨u,r++ds,by rw[e,cV],h1,h2,h3,Flat.append k l r h4⟩
def Flat.one{V:jx α}{ok:Nat->Prop}{u:List Value}{x:α}(h1:u.length=sz)(h2:V ok w u x)(h3:∀z∈u,z.oneCell'=true):Flat V sz ok w u [x]:=⟨u,[],Tc2,h1,h2,h3,rfl⟩
def Flat.length{V:jx α}{ok:Nat->Prop}:∀(l:List α) (cs:List Value),Flat V sz ok w cs l->cs.length=l.length*sz
 |[],cs,h=>by
  simp only[Flat]at h;simp[h]
 |_ :: l,_,⟨u,r,e,h1,h2,h3,h4⟩=>by
  have:=Flat.length l r h4;rw[e,cD,this,h1,cS,Oy];omega
def TdZ{p:Prop}(h:p:=by simpa using hx):p:=h
def Flat.get{V:jx α}{ok:Nat->Prop}:∀(l:List α) (cs:List Value),Flat V sz ok w cs l->∀(i:Nat) (x:α),l[i]?=some x->∃u:List Value,u.length=sz/\V ok w u x/\∀(j:Nat) (z:Value),u[j]?=some z->cs[i*sz+j]?=some z
 |[],_,_,i,x,hx=>by simp at hx
 |y :: l,cs,⟨u,r,e,h1,h2,h3,h4⟩,i,x,hx=>by
  cases i with
  |zero =>
   simp at hx;subst hx;refine⟨u,h1,h2,fun j z hz=>?_⟩;have hj:=(AT.1 hz).1;rw[e,Nat.zero_mul,eJ,Fo hj];exact hz
  |succ i =>
   obtain⟨u',k1,k2,k3⟩:=Flat.get l r h4 i x TdZ;refine⟨u',k1,k2,fun j z hz=>?_⟩;rw[e,Cp (by rw[h1,Oy];omega),h1,show(i+1)*sz+j-sz=i*sz+j from by rw[Oy];omega];exact k3 j z hz
def bF.rd{V:jx α}{ok:Nat->Prop}{l:List α}(hV:Moves V)(h:bF V sz t B ok w v l)(a7:0<sz)(gw:∀b,b<w.1.size->ok b->ok' b)(a5:∀b,v.ownBlock=some b->ok' b):ck V sz ok' w [v] l:=by
 obtain⟨cs,⟨h1,h2⟩,hf⟩:=h;rcases h2 with⟨rfl,hn⟩|⟨g,cap,a8,rfl,hb,hg,vr,hcm,ab,ht⟩
 ·exact TcC
 refine⟨some ⟨g,0,none⟩,cap,rfl,vr,Tdj,fun _=>⟨g,0,rfl,(DS.1 hg).1,a5 g rfl,fun i x hx=>?_⟩⟩;have a9:i<l.length:=(AT.1 hx).1;obtain⟨u,k1,k2,k3⟩:=Flat.get l cs hf i x hx;refine⟨u,k1,hV.mv ⟨bk _,fun b aa ho=>⟨gw b aa ho,rfl⟩⟩ k2,fun j z hz=>?_⟩;have hc:=k3 j z hz;have hj:=(AT.1 hz).1;have hlt:i*sz+j<l.length*sz:=by
  have:(i+1)*sz<=l.length*sz:=tA _ a9;rw[Oy]at this;omega
 rw[<- ht,ri Tc1]at hc;rw[cell_of_row w g (0+i*sz+j) a8 _ (0,0) hg,eJ];simpa using hc
def okB(X:Nat->Prop)(bb:Nat)(nv vv:Value):Nat->Prop:=fun b=>bb<b/\nv.ownBlock≠some b/\vv.ownBlock≠some b/\¬X b
def QD(bs bb:Nat)(nv vv:Value):Nat->Prop:=fun k=>k=bs\/k=bb\/nv.ownBlock=some k\/vv.ownBlock=some k
def Fp(hv:Value)(l:List (ByteArray × Int × Int)):Prop:=hv=.slice none 0 0/\l=[]
def TaL(x0:Option Addr)(x1:af)(x2:Value)(x3:Value)(x4:Value)(x5:Value)(x6:Value):Tab #[.pointer x0,.string x1.name,.int .u64 x1.id,.int .i64 x1.seq,.int .i64 x1.Gd,.int .i64 x1.next,x2,x3,x4,x5,x6]:=⟨⟩
structure eW(X:Nat->Prop)(w:World)(bs bb:Nat)(nv vv:Value)(g:af)(next:List Int):Prop where
 src:Src w bs
 lt:bs<bb
 blk:∃tv dv hv,w.heap[bb]?=some (.cells (TaL (some ⟨bs,0,none⟩) g tv dv vv hv nv) 60 (0,0)) /\
  ck aF 1 (okB X bb nv vv) w [tv] g.tags/\ck aO 7 (okB X bb nv vv) w [dv] g.Gb/\Fp hv g.history
 ownN:eG w (bb+1) nv next
 ownV:bF aN 6 68 (bb+1) (okB X bb nv vv) w vv g.F9
 ne:∀k,nv.ownBlock=some k->vv.ownBlock≠some k
 xlt:∀k,X k->bb<k/\k<w.heap.size
 xn:∀k,nv.ownBlock=some k->¬X k
 xv:∀k,vv.ownBlock=some k->¬X k
variable {g:af}
def eW.Gj{next:List Int}(h:eW X w bs bb nv vv g next):bb<w.1.size:=by
 obtain⟨tv,dv,hv,e,_⟩:=h.blk;exact aq e
def eF(h:w.ownsRow B t sz v n xs)(hk:∀k,B<=k->k<w.1.size->w'.1[k]?=w.1[k]?):w'.ownsRow B t sz v n xs:=by
 obtain⟨h1,h2⟩:=h;refine⟨h1,?_⟩;rcases h2 with hn|⟨g,cap,a5,hv,pC,hg,r⟩
 ·exact .inl hn
 exact .inr ⟨g,cap,a5,hv,pC,by rw[hk g pC (DS.1 hg).1];exact hg,r⟩
def aC(h:w.ownsRow B t sz v n xs)(hk:∀k,v.ownBlock=some k->w'.1[k]?=w.1[k]?):w'.ownsRow B t sz v n xs:=by
 obtain⟨h1,h2⟩:=h;refine⟨h1,?_⟩;rcases h2 with hn|⟨g,cap,a5,rfl,pC,hg,r⟩
 ·exact .inl hn
 exact .inr ⟨g,cap,a5,rfl,pC,by rw[hk g rfl];exact hg,r⟩
def eW.nLt{next:List Int}(h:eW X w bs bb nv vv g next)(e:nv.ownBlock=some k):bb<k/\k<w.1.size:=by
 have:=h.ownN.lt k e;omega
def eW.vLt{next:List Int}(h:eW X w bs bb nv vv g next)(e:vv.ownBlock=some k):bb<k/\k<w.1.size:=by
 obtain⟨cs,ho,_⟩:=h.ownV;have:=ho.lt k e;omega
def eW.keep{next:List Int}(h:eW X w bs bb nv vv g next)(hs:Src w' bs)(hz:w.1.size<=w'.1.size)(hk:∀k,bb<=k->k<w.1.size->¬X k->w'.1[k]?=w.1[k]?):eW X w' bs bb nv vv g next:=by
 have hm:Mv (okB X bb nv vv) (okB X bb nv vv) w w':=⟨hz,fun b hb ho=>⟨ho,hk b (Nat.le_of_lt ho.1) hb ho.2.2.2⟩⟩;refine⟨hs,h.lt,?_,?_,?_,h.ne,fun k hx=>⟨(h.xlt k hx).1,cC (h.xlt k hx).2 hz⟩,h.xn,h.xv⟩
 ·obtain⟨tv,dv,hv,e,h1,h2,h3⟩:=h.blk;exact⟨tv,dv,hv,(hk bb (bk _) h.Gj (fun hx=>Nat.lt_irrefl _ (h.xlt _ hx).1)).trans e,(ck.moves aF.moves).mv hm h1,(ck.moves aO.moves).mv hm h2,h3⟩
 ·exact aC h.ownN fun k e=>hk k (Nat.le_of_lt (h.nLt e).1) (h.nLt e).2 (h.xn k e)
 have mb:=fun k e=>h.vLt (k:=k) e
 obtain⟨cs,ho,hf⟩:=h.ownV;exact⟨cs,aC ho fun k e=>hk k (Nat.le_of_lt (mb k e).1) (mb k e).2 (h.xv k e),Flat.moves aN.moves hm _ _ hf⟩
def eW.read{next:List Int}(h:eW X w bs bb nv vv g next)(hs:Src w' bs)(hm:cR (fun i=>i=bs) w w'):eW X w' bs bb nv vv g next :=
 h.keep hs hm.size fun k h1 h2 _=>hm.block k h2 (by have:=h.lt;omega)
def TeF{p:Prop}(h:p:=by have:=h.lt;have:=h.Gj;omega):p:=h
def eW.below{next:List Int}(h:eW X w bs bb nv vv g next)(hb:Below w.1.size w w'):eW X w' bs bb nv vv g next :=
 h.keep (h.src.keep fun i hi=>hb.block i TeF) hb.size fun k _ h2 _=>hb.block k h2
def TdB{p:Prop}(h:p:=by have:=ho.1;omega):p:=h
def eW.put{next:List Int}(h:eW X w bs bb nv vv g next)(g':af)(hz:w.1.size<=w'.1.size)(hk:∀k,k≠bb->k<w.1.size->w'.1[k]?=w.1[k]?)
  (hb:∀tv dv hv,w.1[bb]?=some (.cells (TaL (some ⟨bs,0,none⟩) g tv dv vv hv nv) 60 (0,0)) ->
   w'.1[bb]?=some (.cells (TaL (some ⟨bs,0,none⟩) g' tv dv vv hv nv) 60 (0,0)))
  (ht:g'.tags=g.tags) (hd:g'.Gb=g.Gb) (hh:g'.history=g.history) (hv:g'.F9=g.F9):eW X w' bs bb nv vv g' next:=by
 have hm:Mv (okB X bb nv vv) (okB X bb nv vv) w w':=⟨hz,fun b hb ho=>⟨ho,hk b TdB hb⟩⟩;have hl:=h.lt;have hbl:=h.Gj;refine⟨h.src.keep fun i hi=>hk i Tc1 Tc1,hl,?_,?_,?_,h.ne,fun k hx=>⟨(h.xlt k hx).1,cC (h.xlt k hx).2 hz⟩,h.xn,h.xv⟩
 ·obtain⟨tv,dv,hv,e,h1,h2,h3⟩:=h.blk;exact⟨tv,dv,hv,hb tv dv hv e,by rw[ht];exact(ck.moves aF.moves).mv hm h1,by rw[hd];exact(ck.moves aO.moves).mv hm h2,by rw[hh];exact h3⟩
 ·exact eF h.ownN fun k a5 hk2=>hk k Tc1 hk2
 obtain⟨cs,ho,hf⟩:=h.ownV;rw[hv];exact⟨cs,eF ho fun k a5 hk2=>hk k Tc1 hk2,Flat.moves aN.moves hm _ _ hf⟩
@[irreducible] def oX (i n:Int):Int:=(i*2862933555777941757+n*3037000493)%18446744073709551616
def uO(i n:Int)(w:World)(hn:0<=n)(hn2:n<=1000000000) :
  Calls prog 98 #[.int .u64 i,.int .i64 n] w fun e w'=>e=.returned (.int .u64 (oX i n))/\w'=w:=by
 go_enter func98,ntmps98;go_wp2;go_ret
 have e:IntKind.u64.wrap (IntKind.u64.wrap (i*2862933555777941757)+n*3037000493)=oX i n:=by
  unfold oX;rw[IntKind.wrap_u64,IntKind.wrap_u64];omega
 exact⟨by rw[<- e];rfl,rfl⟩
structure aH(X:Nat->Prop)(bs bb:Nat)(nv vv:Value)(w w':World)(nv' pA:Value)(g':af)(next':List Int):Prop where
 bld:eW X w' bs bb nv' pA g' next'
 mod:cR (QD bs bb nv vv) w w'
 nfr:∀k,nv'.ownBlock=some k->nv.ownBlock=some k\/w.heap.size<=k
 vfr:∀k,pA.ownBlock=some k->vv.ownBlock=some k\/w.heap.size<=k
def vS(X:Nat->Prop)(bs bb:Nat)(nv vv:Value)(g:af)(next:List Int)(w:World)(h:eW X w bs bb nv vv g next)(hn:0<=g.next)(hn2:g.next<=100000000) :
  Calls prog 52 #[.pointer (some bb)] w fun e w'=>e=.returned (.int .u64 (oX g.id (g.next+1)))/\aH X bs bb nv vv w w' nv vv { g with next:=g.next+1 } next:=by
 obtain⟨tv,dv,hv,hb,h1,h2,h3⟩:=h.blk;have c1:=cr hb 5 _ rfl;have f1:w.frozen? (Tac bb 5)=false:=by simp[BT,hb]
 have c2:=cr hb 2 _ rfl;have gO:=h.Gj;replace hb:=aa hb;go_enter func52,ntmps52
 have a5:(w.setCell (Tac bb 5) (.int .i64 (g.next+1))).cell? (Tac bb 5)=some (.int .i64 (g.next+1)):=by
  have:=block_setCell (i:=5) (.int .i64 (g.next+1)) hb.o;simp[AN,this]
 have a7:(w.setCell (Tac bb 5) (.int .i64 (g.next+1))).cell? (Tac bb 2)=some (.int .u64 g.id):=by
  have:=block_setCell (i:=5) (.int .i64 (g.next+1)) hb.o;simp[AN,this]
 go_wp2;generalize hW:w.setCell (Tac bb 5) (.int .i64 (g.next+1))=W at *;have HW:=aa hW;clear hW;go_quiet ((go_at_call 98;exact po (uO _ _ _ Tc1 Tc1)));go_wp2;go_ret;have hW:=HW.o;subst hW;refine⟨rfl,?_,?_,fun k hk=>.inl hk,fun k hk=>.inl hk⟩
 ·exact h.put _ Tdd (fun k hk _=>bw _ _ _ _ hk) (fun tv dv hv e=>block_setCell (cs:=#[_,_,_,_,_,_,_,_,_,_,_]) (i:=5) _ e) rfl rfl rfl rfl
 exact((cR.refl (QD bs bb nv vv) w).setCell (p:=⟨bb,5,none⟩) (.inl (.inr (.inl rfl))) _).drewN _
def eW.at{next:List Int}(h:eW X w bs bb nv vv g next){D:az}{m:Int}(hd:g.Gb[d]?=some D)(hn:next[d]?=some m) :
  ∃db a5 ir nb ki,w.cell? bb=some (.pointer (some bs))/\w.cell? (Tac bb 7)=some (.slice (some ⟨db,a5,none⟩) g.Gb.length ir)/\nv=.slice (some ⟨nb,0,none⟩) next.length ki/\w.cell? (Tac bb 10)=some (.slice (some ⟨nb,0,none⟩) next.length ki) /\
   w.cell? (nb,d)=some (.int .i64 m)/\w.frozen? (nb,d)=false/\w.cell? (db,a5+d*7)=some (.string D.name)/\w.cell? (db,a5+d*7+3)=some (.int .i64 D.Gc) /\
   g.Gb.length<=ir/\ir<=9223372036854775807/\next.length<=ki/\ki<=9223372036854775807/\bb<nb/\nb<w.1.size/\bb<db/\db≠nb/\db<w.1.size/\d<g.Gb.length/\d<next.length:=by
 have CD:d<g.Gb.length:=(AT.1 hd).1;have zr:d<next.length:=(AT.1 hn).1;obtain⟨tv,dv,hv,e,_,h2,_⟩:=h.blk;obtain⟨p,ir,ed,k1,k2,k3⟩:=h2;obtain⟨db,a5,rfl,k4,k5,k6⟩:=k3 Tc1;simp only[rp,and_true]at ed;subst ed;obtain⟨u,u1,⟨t,rfl,_⟩,u3⟩:=k6 d D hd;have ho:=h.ownN;have a7:=ho;rcases a7.2 with⟨_,hz⟩|⟨nb,ki,a8,rfl,hb,hg,vr,hcm,a9,ht⟩
 ·omega
 refine⟨db,a5,ir,nb,ki,cr e _ _ rfl,cr e _ _ rfl,rfl,cr e _ _ rfl,?_,ho.frozenAt _,?_,?_,k1,k2,vr,Tdj,Tc1,(DS.1 hg).1,k5.1,?_,k4,CD,zr⟩
 ·have:=ho.cellAt d Tc1;rw[this];simp[hn]
 ·simpa using u3 0 _ rfl
 ·simpa using u3 3 _ rfl
 intro e;exact k5.2.1 (by rw[e];rfl)
def eW.setNext{next:List Int}(h:eW X w bs bb (.slice (some nb) next.length ki) vv g next)(d:Nat)(z:Int):eW X (w.setCell (nb,d) (.int .i64 z)) bs bb (.slice (some nb) next.length ki) vv g (next.set d z):=by
 have a5:=h.ownN;have sy:bb<nb:=by have:=a5.lt nb rfl;omega
 have hl:=h.lt;have hk:∀k,k≠nb->(w.setCell (nb,d) (.int .i64 z)).1[k]?=w.1[k]?:=fun k hk=>bw _ _ _ _ hk;have hz:w.1.size<=(w.setCell (nb,d) (.int .i64 z)).1.size:=by simp[AF]
 have hm:Mv (okB X bb (.slice (some nb) next.length ki) vv) (okB X bb (.slice (some nb) next.length ki) vv) w (w.setCell (nb,d) (.int .i64 z)):=⟨hz,fun b _ ho=>⟨ho,hk b (fun e=>ho.2.1 (by rw[e];rfl))⟩⟩;refine⟨h.src.keep fun i hi=>hk i Tc1,hl,?_,?_,?_,h.ne,fun k hx=>⟨(h.xlt k hx).1,cC (h.xlt k hx).2 hz⟩,h.xn,h.xv⟩
 ·obtain⟨tv,dv,hv,e,h1,h2,h3⟩:=h.blk;exact⟨tv,dv,hv,(hk bb Tc1).trans e,(ck.moves aF.moves).mv hm h1,(ck.moves aO.moves).mv hm h2,h3⟩
 ·have h2:=(a5.stored d (.int .i64 z)).1;unfold eG;rw[List.length_set,List.map_set];exact h2
 obtain⟨cs,ho,hf⟩:=h.ownV;refine⟨cs,?_,Flat.moves aN.moves hm _ _ hf⟩;exact ownsRow_setCell_other ho (fun e=>h.ne nb rfl e) _
def eW.readPost{next:List Int}(h:eW X w bs bb nv vv g next)(hs:Src w' bs)(hm:cR (fun i=>i=bs) w w'):aH X bs bb nv vv w w' nv vv g next :=
 ⟨h.read hs hm,hm.mono (fun _ hk=>.inl hk),fun _ hk=>.inl hk,fun _ hk=>.inl hk⟩
def fu{o:Nat}(hb:b<w.1.size)(h:w.cell? (b,o)=some v):((w.drewN N).alloc (.cells cs t)).cell? (b,o)=some v :=
 (cd (w:=w) (cj (w.drewN N) _ _ hb)).trans h
def Jl :((w.drewN N).alloc (.cells cs t)).frozen? (w.1.size,i)=false:=by
 have h:((w.drewN N).alloc (.cells cs t)).1[w.1.size]?=some (.cells cs t (0,0)):=b9 (w.drewN N) _;unfold BT;simp only[h];simp
def mD{b:World}{u:Value}(h:a.1[p.block]?=b.1[p.block]?):(a.setCell p u).1[p.block]?=(b.setCell p u).1[p.block]?:=by
 simp only[AF,BW,ej];rw[h]
def cR.alloc(h:cR F a w)(o:Obj):cR F a (w.alloc o) :=
 h.trans (G:=fun _=>False) (cR.of_below ((bj _ _).alloc (bk _) _)) (fun _ f=>f.elim)
def eW.nextPost{next:List Int}(h:eW X w bs bb (.slice (some nb) next.length ki) vv g next)(hs:Src w1 bs)(hm:cR (fun i=>i=bs) w w1)
  (h2:cR (fun k=>w.1.size<=k) (w1.setCell (nb,d) (.int .i64 z)) w2):aH X bs bb (.slice (some nb) next.length ki) vv w w2 (.slice (some nb) next.length ki) vv g (next.set d z):=by
 have a5:=h.ownN;have sy:bb<nb/\nb<w.1.size:=by have:=a5.lt nb rfl;omega
 have hl:=h.lt;have On:(w1.setCell (nb,d) (.int .i64 z)).1.size=w1.1.size:=by simp[AF]
 have hz:=hm.size;have k2:∀k,k<w.1.size->w2.1[k]?=(w1.setCell (nb,d) (.int .i64 z)).1[k]?:=fun k hk=>h2.block k Tc1 Tc1;refine⟨(h.setNext d z).keep ?_ ?_ ?_,?_,fun _ hk=>.inl hk,fun _ hk=>.inl hk⟩
 ·exact hs.keep fun i hi=>(k2 i Tc1).trans (bw _ _ _ _ Tc6)
 ·have:=h2.size;simp[AF]at this ⊢;omega
 ·intro k h3 h4 _;have a7:k<w.1.size:=by simpa[AF]using h4
  rw[k2 k a7];by_cases e:k=nb
  ·subst e;exact mD (p:=⟨k,d,none⟩) (hm.block k a7 Tc1)
  rw[bw _ _ _ _ e,bw _ _ _ _ e];exact hm.block k a7 Tc1
 exact((hm.mono (fun _ hk=>.inl hk)).setCell (p:=⟨nb,d,none⟩) (.inl (.inr (.inr (.inl rfl)))) _).trans h2 (fun i hi=>.inr hi)
def eW.readPost'{next:List Int}(h:eW X w bs bb nv vv g next)(hs:Src w' bs)(hm:cR (fun i=>i=bs) w w'):aH X bs bb nv vv w w' nv vv g next/\w'.1[bb]?=w.1[bb]? :=
 ⟨h.readPost hs hm,hm.block bb h.Gj (by have:=h.lt;omega)⟩
def eW.nextPost'{next:List Int}(h:eW X w bs bb (.slice (some nb) next.length ki) vv g next)(hs:Src w1 bs)(hm:cR (fun i=>i=bs) w w1)
  (h2:cR (fun k=>w.1.size<=k) (w1.setCell (nb,d) (.int .i64 z)) w2):aH X bs bb (.slice (some nb) next.length ki) vv w w2 (.slice (some nb) next.length ki) vv g (next.set d z)/\w2.1[bb]?=w.1[bb]?:=by
 have hbl:=h.Gj;have hlt:=h.lt;have sy:bb<nb:=by have:=h.ownN.lt nb rfl;omega
 have hz:=hm.size;refine⟨h.nextPost hs hm h2,?_⟩;rw[h2.block bb (by simp[AF];omega) Tc1,bw _ _ _ _ (show bb≠nb by omega)];exact hm.block bb hbl Tc1
def Tau(x0:ByteArray)(x1:Int):Tab #[.bool false,.string x0,.int .i64 x1]:=⟨⟩
def Tat :Tab #[.bool false,.string ⟨#[]⟩,.int .i64 0]:=⟨⟩
def FC(X:Nat->Prop)(bs bb:Nat)(nv vv:Value)(g:af)(next:List Int)(d:Nat)(D:az)(m n:Int)(w:World)(e:Ending)(w':World):Prop :=
 (e=.returned (.tuple #[.agg Tat,false])/\aH X bs bb nv vv w w' nv vv g next/\w'.1[bb]?=w.1[bb]?) \/
 ∃s:Int,m<=s/\s+n<=D.Gc/\e=.returned (.tuple #[.agg (Tau D.name s),true])/\aH X bs bb nv vv w w' nv vv g (next.set d (s+n))/\w'.1[bb]?=w.1[bb]?
def Tbx{p:Prop}(h:p:=by
 rw[<- HW.o,<- HW2.o];have:=M1.size;exact(((((M1.drewN _).drewN _).alloc _).setCell (.inr Tc6) _).setCell (.inr Tc6) _).setCell (.inr Tc6) _):p:=h
def TbF{p:Prop}(h:p:=by
 rw[<- hW];exact block_setCell (cs:=#[_,_,_]) (i:=2) _ (block_setCell (cs:=#[_,_,_]) (i:=1) _ (block_setCell (cs:=#[_,_,_]) (i:=0) _ (b9 (W2.drewN _) _)))):p:=h
def TbS{p:Prop}(h:p:=by
 rw[<- hW,bw _ _ _ _ Tc6,bw _ _ _ _ Tc6,bw _ _ _ _ Tc6,cj _ _ _ Tc6,<- HW2.o];rfl):p:=h
def Te1{p:Prop}(h:p:=by simp[results,Tryz.results53,go_sem,p0,p1,p2]):p:=h
def qR(X:Nat->Prop)(bs bb:Nat)(nv vv:Value)(g:af)(next:List Int)(w:World)(h:eW X w bs bb nv vv g next)(d:Nat)(D:az)(m n:Int)(hd:g.Gb[d]?=some D)(hn:next[d]?=some m)
  (ag:0<=m) (ah:m<=1000000) (ai:0<=n) (hn1:n<=1000000) :
  Calls prog 53 #[.pointer (some bb),.int .i64 d,.int .i64 n] w (FC X bs bb nv vv g next d D m n w):=by
 replace hd:=aa hd;replace hn:=aa hn;have hbl:=h.Gj;have hlt:=h.lt;have c0:w.cell? bb=some (.pointer (some bs)):=by
  obtain⟨_,_,_,_,_,c,_⟩:=h.at hd.o hn.o;exact c
 go_enter func53,ntmps53
 go_wp2_with fail;refine(bY bs _ _ Tc1 Tc1 (h.below ((bj _ _).alloc (bk _) _)).src).mono ?_;rintro e w1 ⟨v,rfl,aj,ak,hs,oY⟩;have B1:=(h.below ((bj _ _).alloc (bk _) _)).read hs oY;have hR:w1.1[w.1.size]?=some (.cells Tat 53 (0,0)):=by
  rw[oY.block _ Tc2 Tc1,b9]
 obtain⟨r0,r1,r2⟩:=sv3 (cr hR);have r3:=sr hR;have mu:w.1.size<w1.1.size:=aq hR;replace hR:=aa hR;have M1:cR (fun i=>i=bs) w w1:=((cR.of_below ((bj _ _).alloc (bk _) _)).trans oY (fun i hi=>.inl hi));obtain⟨db,am,ir,nb,ki,c0,c7,rfl,c10,cn,cf,ab,ao,l1,l2,l3,l4,l5,l6,l7,l8,l9,au,av⟩:=B1.at hd.o hn.o;clear oY hs;have aw:0<=v/2:=by omega
 have ay:v/2<=1:=by omega
 by_cases k1:D.Gc<m+n
 ·have k2:D.Gc<m+v/2+n:=by omega
  go_wp2;go_quiet (fail);go_wp2;go_quiet (fail);go_wp2;refine eC (v:=.tuple #[.agg Tat,false]) (by simp[results,Tryz.results53,go_sem,r0,r1,r2]) rfl (.inl ⟨rfl,?_⟩);refine h.readPost' (B1.src.keep fun i hi=>?_) ((((M1.drewN _).setCell (p:=w.1.size) (.inr (bk _)) _).setCell (p:=⟨w.1.size,1,none⟩) (.inr (bk _)) _).setCell (p:=⟨w.1.size,2,none⟩) (.inr (bk _)) _);rw[bw _ _ _ _ Tc6,bw _ _ _ _ Tc6,bw _ _ _ _ Tc6];rfl
 have k2:¬D.Gc<m+n:=k1;by_cases k3:D.Gc<m+v/2+n
 ·go_wp2;go_quiet (fail);go_wp2;go_quiet (fail);go_wp2;generalize a5:w1.drewN _=W2;have e2:∀p,W2.cell? p=w1.cell? p:=fun p=>by rw[<- a5];rfl
  have d7:=(e2 _).trans c7;have a8:=(e2 _).trans c10;have dn:=(e2 _).trans cn;have dd:=(e2 _).trans ab;have s2:W2.1.size=w1.1.size:=by rw[<- a5];rfl
  have z1:db<W2.1.size:=by omega
  have z2:nb<W2.1.size:=by omega
  have z3:bb<W2.1.size:=by omega
  have y7:=fun N cs t=>fu (N:=N) (cs:=cs) (t:=t) z3 d7;have a9:=fun N cs t=>fu (N:=N) (cs:=cs) (t:=t) z3 a8;have yn:=fun N cs t=>fu (N:=N) (cs:=cs) (t:=t) z2 dn;have yd:=fun N cs t=>fu (N:=N) (cs:=cs) (t:=t) z1 dd;have a0:∀N (u v x:Value) (t:TypeId),((W2.drewN N).alloc (.cells #[u,v,x] t)).cell? W2.1.size=some u:=fun N u v x t=>aD rfl rfl;have a1:∀N (u v x:Value) (t:TypeId),((W2.drewN N).alloc (.cells #[u,v,x] t)).cell? (Tac W2.1.size 1)=some v:=fun N u v x t=>aD rfl rfl;have a2:∀N (u v x:Value) (t:TypeId),((W2.drewN N).alloc (.cells #[u,v,x] t)).cell? (Tac W2.1.size 2)=some x:=fun N u v x t=>aD rfl rfl;have a3:∀N (i:Nat) (cs:Array Value) (t:TypeId),((W2.drewN N).alloc (.cells cs t)).frozen? ⟨W2.1.size,i,none⟩=false:=fun N i cs t=>Jl;have E2:=aa e2;clear e2;have S2:=aa s2;clear s2;have HW2:=aa a5;clear a5
  go_region
  clear y7 a9 yn yd;generalize hW:AF (AF (AF (AI (World.drewN W2 _) _) _ _) _ _) _ _=W6;have S:W2.1.size=w1.1.size:=S2.o;have hk6:∀k,k<w1.1.size->W6.1[k]?=w1.1[k]?:=fun k hk=>by
   exact TbS
  have a7:W6.1[W2.1.size]?=some (.cells (Tau D.name m) 53 (0,0)):=by
   exact TbF
  have ae:W6.cell? (Tac bb 10)=_:=(cd (w:=w1) (hk6 bb Tc1)).trans c10;have qn:W6.cell? (nb,d)=_:=(cd (w:=w1) (hk6 nb Tc1)).trans cn;have qf:W6.frozen? (nb,d)=_:=(rh (w:=w1) (hk6 nb Tc1)).trans cf;obtain⟨n0,n1,n2⟩:=sv3 (cr a7);have R6:=(hk6 w.1.size Tc1).trans hR.o;obtain⟨p0,p1,p2⟩:=sv3 (cr R6);have p3:=sr R6;have x1:nb≠W2.1.size:=by omega
  have x2:nb≠w.1.size:=by have:=h.ownN.lt nb rfl;omega
  have x3:w.1.size≠W2.1.size:=by omega
  have K6:=aa hk6;clear hk6;have N6:=aa a7;clear a7;have ZG:=aa R6;clear R6;have HW:=aa hW;clear hW;have HS:=aa S;clear S;clear a0 a1 a2 a3;go_wp2;refine eC (v:=.tuple #[.agg (Tau D.name m),true]) Te1 rfl (.inr ⟨m,Tc1,Tc1,rfl,?_⟩);have M6:cR (fun i=>i=bs) w W6:=by
   exact Tbx
  refine h.nextPost' (w1:=W6) (B1.src.keep fun i hi=>K6.o i Tc1) M6 ?_;exact((((cR.refl (fun k=>w.1.size<=k) (W6.setCell (nb,d) (.int .i64 (m+n)))).setCell (p:=w.1.size) (.inl (bk _)) _).setCell (p:=⟨w.1.size,1,none⟩) (.inl (bk _)) _).setCell (p:=⟨w.1.size,2,none⟩) (.inl (bk _)) _)
 go_wp2;go_quiet (fail);go_wp2;go_quiet (fail);go_wp2;generalize a5:w1.drewN _=W2;have e2:∀p,W2.cell? p=w1.cell? p:=fun p=>by rw[<- a5];rfl
 have d7:=(e2 _).trans c7;have a8:=(e2 _).trans c10;have dn:=(e2 _).trans cn;have dd:=(e2 _).trans ab;have s2:W2.1.size=w1.1.size:=by rw[<- a5];rfl
 have z1:db<W2.1.size:=by omega
 have z2:nb<W2.1.size:=by omega
 have z3:bb<W2.1.size:=by omega
 have y7:=fun N cs t=>fu (N:=N) (cs:=cs) (t:=t) z3 d7;have a9:=fun N cs t=>fu (N:=N) (cs:=cs) (t:=t) z3 a8;have yn:=fun N cs t=>fu (N:=N) (cs:=cs) (t:=t) z2 dn;have yd:=fun N cs t=>fu (N:=N) (cs:=cs) (t:=t) z1 dd;have a0:∀N (u v x:Value) (t:TypeId),((W2.drewN N).alloc (.cells #[u,v,x] t)).cell? W2.1.size=some u:=fun N u v x t=>aD rfl rfl;have a1:∀N (u v x:Value) (t:TypeId),((W2.drewN N).alloc (.cells #[u,v,x] t)).cell? (Tac W2.1.size 1)=some v:=fun N u v x t=>aD rfl rfl;have a2:∀N (u v x:Value) (t:TypeId),((W2.drewN N).alloc (.cells #[u,v,x] t)).cell? (Tac W2.1.size 2)=some x:=fun N u v x t=>aD rfl rfl;have a3:∀N (i:Nat) (cs:Array Value) (t:TypeId),((W2.drewN N).alloc (.cells cs t)).frozen? ⟨W2.1.size,i,none⟩=false:=fun N i cs t=>Jl;have E2:=aa e2;clear e2;have S2:=aa s2;clear s2;have HW2:=aa a5;clear a5
 go_region
 clear y7 a9 yn yd;generalize hW:AF (AF (AF (AI (World.drewN W2 _) _) _ _) _ _) _ _=W6;have S:W2.1.size=w1.1.size:=S2.o;have hk6:∀k,k<w1.1.size->W6.1[k]?=w1.1[k]?:=fun k hk=>by
  exact TbS
 have a7:W6.1[W2.1.size]?=some (.cells (Tau D.name (m+v/2)) 53 (0,0)):=by
  exact TbF
 have ae:W6.cell? (Tac bb 10)=_:=(cd (w:=w1) (hk6 bb Tc1)).trans c10;have qn:W6.cell? (nb,d)=_:=(cd (w:=w1) (hk6 nb Tc1)).trans cn;have qf:W6.frozen? (nb,d)=_:=(rh (w:=w1) (hk6 nb Tc1)).trans cf;obtain⟨n0,n1,n2⟩:=sv3 (cr a7);have R6:=(hk6 w.1.size Tc1).trans hR.o;obtain⟨p0,p1,p2⟩:=sv3 (cr R6);have p3:=sr R6;have x1:nb≠W2.1.size:=by omega
 have x2:nb≠w.1.size:=by have:=h.ownN.lt nb rfl;omega
 have x3:w.1.size≠W2.1.size:=by omega
 have K6:=aa hk6;clear hk6;have N6:=aa a7;clear a7;have ZG:=aa R6;clear R6;have HW:=aa hW;clear hW;have HS:=aa S;clear S;clear a0 a1 a2 a3;go_wp2;refine eC (v:=.tuple #[.agg (Tau D.name (m+v/2)),true]) Te1 rfl (.inr ⟨m+v/2,Tc1,Tc1,rfl,?_⟩);have M6:cR (fun i=>i=bs) w W6:=by
  exact Tbx
 rw[show m+v/2+n=m+(v/2+n) from by omega];refine h.nextPost' (w1:=W6) (B1.src.keep fun i hi=>K6.o i Tc1) M6 ?_;exact((((cR.refl (fun k=>w.1.size<=k) (W6.setCell (nb,d) (.int .i64 (m+(v/2+n))))).setCell (p:=w.1.size) (.inl (bk _)) _).setCell (p:=⟨w.1.size,1,none⟩) (.inl (bk _)) _).setCell (p:=⟨w.1.size,2,none⟩) (.inl (bk _)) _)
def TeV{p:Prop}(h:p:=by have:(l.length+1)*ga<=2000000*1000:=ue (by omega) Hv;omega):p:=h
def wF{V:jx α}(hV:Moves V){ga:Nat}{e:TypeId}{i0:TypeInfo}{z:Value}(hu:prog.underlying t=some (.slice e))(hi:prog.info? e=some i0)(hz:i0.zero=some z)(a5:i0.size=sz)(aa:i0.bytes=ga)(ab:z.cells.size=sz)(mu:0<sz)(Hv:ga<=1000)
  {w:World} {ops:Array Oper} {rest:List Oper} {o:Oper} {a:Act} {Q:Exit->Act->World->Prop} (ae:o.guard=none) (s x:Operand)
  (ho:o.op=.call { callee:=.builtin .append,args:=#[s,x],argTypes:=#[t,t] })
  (B:Nat) (ok:Nat->Prop) (v:Value) (l:List α) (p:α) (hs:a.eval s=v) (a7:bF V sz e B ok w v l) (g c:Nat) (u:List Value) (hx:a.eval x=.slice (some g) 1 c)
  (ez:u.length=sz) (af:V ok w u p) (a9:∀z∈u,z.oneCell'=true) (hc:∀(j:Nat) (y:Value),u[j]?=some y->w.cell? (g,j)=some y) (hl:l.length<=1000000) (hB:B<=w.1.size)
  (gw:∀b,v.ownBlock=some b->¬ok b)
  (h:∀v' w',bF V sz e B ok w' v' (l++[p])->w.grownBy w' v.ownBlock->wpList prog ops Q rest (a.put o.dst v') w'):wpList prog ops Q (o :: rest) a w:=by
 obtain⟨cs,a8,hf⟩:=a7;refine tE w ae s x t ho B e i0 z sz ga hu hi hz a5 aa ab mu v l.length cs hs a8 ⟨g,0,none⟩ 1 c u hx Tc1 (fun j y hy=>?_) a9 Tda TeV hB (fun v' w' ag hg _=>?_)
 ·rw[iz,eJ];exact hc j y hy
 have hm:Mv ok ok w w':=⟨hg.size,fun b hb gR=>⟨gR,hg.block b hb (fun e=>gw b e.symm gR)⟩⟩
 refine h v' w' ⟨cs++u,?_,(Flat.one ez (hV.mv hm af) a9).append _ _ (Flat.moves hV hm _ _ hf)⟩ hg;rw[cD];exact ag
def iQ:List ByteArray:=[⟨#[99,111,108,100]⟩,⟨#[102,97,115,116]⟩,⟨#[115,105,116,101,61,49]⟩,⟨#[115,105,116,101,61,50]⟩]
def FH(b:Nat)(w:World)(e:Ending)(w':World):Prop:=∃v l,e=.returned v/\List.Sublist l iQ/\ck aF 1 (fun k=>w.1.size<=k) w' [v] l/\Src w' b/\cR (fun i=>i=b) w w'
def zY:(prog.info? 9).map (fun i=>(i.zero,i.size,i.bytes))=some (some (.string ⟨#[]⟩),1,16):=by kernel_rfl
def Tc5{p:Prop}(h:p:=by go_num):p:=h
def Tdl{p:Prop}(h:p:=by simpa using hy):p:=h
def qY(b:Nat)(w:World)(h:Src w b):Calls prog 17 #[.pointer (some b)] w (FH b w):=by
 have cX:=h.lt;go_enter func17,ntmps17;go_wp2
 go_loopw[3,5] (fun o i wr=>∃(k:Nat) (l:List ByteArray),k<=4/\i=.int .i64 k/\List.Sublist l (iQ.take k)/\bF aF 1 9 (w.1.size+1) (fun _=>False) wr o l/\Src wr b/\cR (fun i=>i=b) w wr/\wr.1[w.1.size]?=some (.cells (iQ.map Cd).toArray 9 (0,0))) (fun _ i _=>4-(intOf i).toNat)
 case atStart =>
  refine⟨0,[],Tc1,rfl,List.Sublist.slnil,⟨[],gS _ _ _ 1,rfl⟩,h.keep fun i hi=>cj _ _ _ Tc1,cR.of_below ((bj _ _).alloc (bk _) _),?_⟩;rw[b9];rfl
 obtain⟨k,l,hk,rfl,u9,a7,QG,oY,da⟩:=hrel;replace u9:=aa u9;replace da:=aa da;by_cases hlt:k<4
 ·have ab:decide ((k:Int)<4)=true:=by simp;omega
  obtain⟨x,hx⟩:=aj iQ k (by simpa[iQ]using hlt);replace hx:=aa hx;go_wp2_with fail;refine(bY b _ _ Tc1 Tc1 QG).mono ?_;rintro e w1 ⟨v,rfl,ae,af,hs1,a9⟩;have cU:=aa ((a9.block w.1.size (aq da.o) Tc1).trans da.o);have a5:bF aF 1 9 (w.1.size+1) (fun _=>False) w1 u3 l:=by
   obtain⟨cs,ho,hf⟩:=a7;exact⟨cs,eF ho fun i h1 h2=>a9.block i h2 Tc1,Flat.moves aF.moves ⟨a9.size,fun _ _ f=>f.elim⟩ _ _ hf⟩
  have M1:=oY.trans a9 (fun i hi=>.inl hi);by_cases hv:v=0
  ·subst hv;obtain⟨i0,hi,du,On,RC⟩:=gg zY;have ag:l.length<=4:=cA u9.o.length_le Tc6;replace hi:=aa hi;replace du:=aa du;replace On:=aa On;replace RC:=aa RC;have cx:w1.cell? (w.1.size,k)=some (.string x):=by
    have:=hx.o;simp[AN,cU.o,this]
   have TL:w.1.size<w1.1.size:=aq cU.o;go_wp2_with(at_builtin;refine wF aF.moves underlying26 hi.o du.o On.o RC.o rfl Tc4 Tc4 rfl _ _ rfl (w.1.size+1) (fun _=>False) _ l x rfl ?c1 w1.1.size 1 [.string x] rfl rfl rfl ?c2 ?c3 Tc1 ?c4 (fun _ _ f=>f) ?_)
   case c1 =>
    obtain⟨cs,ho,hf⟩:=a5;exact⟨cs,eF ho fun i h1 h2=>cj _ _ _ h2,Flat.moves aF.moves ⟨Tc2,fun _ _ f=>f.elim⟩ _ _ hf⟩
   case c2 =>
    intro z hz;simp at hz;subst hz;rfl
   case c3 =>
    intro j y hy;exact aD rfl Tdl
   case c4=>simp;omega
   intro v' w' a8 hg;have M2:=(M1.alloc (.cells #[.string x] 9)).trans (G:=fun i=>w.1.size+1<=i) ⟨hg.os,hg.tape,hg.output,hg.size,fun i hi hn=>hg.block i hi (fun e=>hn (by obtain⟨cs,ho,_⟩:=a5;exact(ho.lt i e.symm).1))⟩ (fun i hi=>.inr Tc1);have cm:w'.1[w.1.size]?=some (.cells (iQ.map Cd).toArray 9 (0,0)):=by
    rw[hg.block w.1.size Tc6 (fun e=>by obtain⟨cs,ho,_⟩:=a5;have:=(ho.lt _ e.symm).1;omega),cj _ _ _ TL];exact cU.o
   have S2:Src w' b:=Src.keep hs1 fun i hi=>by
    rw[hg.block i Tc6 (fun e=>by obtain⟨cs,ho,_⟩:=a5;have:=(ho.lt _ e.symm).1;omega),cj _ _ _ Tc1]
   replace cm:=aa cm;go_wp2;go_roundw;exact⟨k+1,l++[x],Tc1,Tc5,by rw[take_snoc' _ _ _ hx.o];exact u9.o.append (List.Sublist.refl _),a8,S2,M2,cm.o⟩;simp[intOf];omega
  have XV:(v==0)=false:=by simpa using hv
  go_wp2;go_roundw;exact⟨k+1,l,Tc1,Tc5,u9.o.trans (List.take_sublist_take_left Tc1),a5,hs1,M1,cU.o⟩;simp[intOf];omega
 have ab:decide ((k:Int)<4)=false:=by simp;omega
 go_wp2;go_ret;refine⟨_,l,rfl,?_,a7.rd aF.moves Tc4 (fun _ _ f=>f.elim) (fun g hg=>?_),QG,oY⟩
 ·rw[show iQ=iQ.take k from(jz (by simp[iQ];omega)).symm];exact u9.o
 obtain⟨cs,ho,_⟩:=a7;have:=ho.lt g hg;omega
section
variable {X Y:Nat->Prop}{w w0 w1 w2:World}{bs bb:Nat}{nv vv rK rN GC Ds X0 OJ:Value}{g g1 g2:af}{next n1 n2:List Int}
variable {k:Nat}
def eW.nfp(h:eW X w bs bb nv vv g next)(hk:w.1.size<=k):¬QD bs bb nv vv k:=by
 rintro(rfl|rfl|e|e)
 ·have:=h.lt;have:=h.Gj;omega
 ·have:=h.Gj;omega
 ·have:=(h.nLt e).2;omega
 have:=(h.vLt e).2;omega
def eW.xfp(h:eW X w bs bb nv vv g next)(hk:X k):¬QD bs bb nv vv k:=by
 have:=h.xlt k hk;rintro(rfl|rfl|e|e)
 ·have:=h.lt;omega
 ·omega
 ·exact h.xn k e hk
 exact h.xv k e hk
def eW.okfp(h:eW X w bs bb nv vv g next)(hk:okB X bb nv vv k):¬QD bs bb nv vv k:=by
 rintro(rfl|rfl|e|e)
 ·have:=h.lt;have:=hk.1;omega
 ·have:=hk.1;omega
 ·exact hk.2.1 e
 exact hk.2.2.1 e
def eW.sets(h:eW X w bs bb nv vv g next)(hY:∀k,Y k->X k\/(bb<k/\k<w.1.size/\¬QD bs bb nv vv k))(hm:Mv (okB X bb nv vv) (okB Y bb nv vv) w w):eW Y w bs bb nv vv g next:=by
 refine⟨h.src,h.lt,?_,h.ownN,?_,h.ne,fun k hk=>?_,fun k e hk=>?_,fun k e hk=>?_⟩
 ·obtain⟨tv,dv,hv,e,h1,h2,h3⟩:=h.blk;exact⟨tv,dv,hv,e,(ck.moves aF.moves).mv hm h1,(ck.moves aO.moves).mv hm h2,h3⟩
 ·obtain⟨cs,ho,hf⟩:=h.ownV;exact⟨cs,ho,Flat.moves aN.moves hm _ _ hf⟩
 ·rcases hY k hk with h1|h1
  ·exact h.xlt k h1
  exact⟨h1.1,h1.2.1⟩
 ·rcases hY k hk with h1|h1
  ·exact h.xn k e h1
  exact h1.2.2 (.inr (.inr (.inl e)))
 rcases hY k hk with h1|h1
 ·exact h.xv k e h1
 exact h1.2.2 (.inr (.inr (.inr e)))
def eW.fewer(h:eW X w bs bb nv vv g next)(hY:∀k,Y k->X k):eW Y w bs bb nv vv g next :=
 h.sets (fun k hk=>.inl (hY k hk)) ⟨bk _,fun _ _ ho=>⟨⟨ho.1,ho.2.1,ho.2.2.1,fun hy=>ho.2.2.2 (hY _ hy)⟩,rfl⟩⟩
def eW.fresh(h:eW X w bs bb nv vv g next)(hb:Below w.1.size w w1)(hY:∀k,Y k->X k\/(w.1.size<=k/\k<w1.1.size)):eW Y w1 bs bb nv vv g next:=by
 have hbl:=h.Gj;have h1:=h.below hb;have hm:Mv (okB X bb nv vv) (okB Y bb nv vv) w w1:=⟨hb.size,fun b gO ho=>⟨⟨ho.1,ho.2.1,ho.2.2.1,fun hy=>(hY b hy).elim ho.2.2.2 Tc1⟩,hb.block b gO⟩⟩;refine⟨h1.src,h.lt,?_,h1.ownN,?_,h.ne,fun k hk=>?_,fun k e hk=>?_,fun k e hk=>?_⟩
 ·obtain⟨tv,dv,hv,e,q1,q2,q3⟩:=h.blk;exact⟨tv,dv,hv,(hb.block bb hbl).trans e,(ck.moves aF.moves).mv hm q1,(ck.moves aO.moves).mv hm q2,q3⟩
 ·obtain⟨cs,ho,hf⟩:=h.ownV;exact⟨cs,eF ho fun k _ h2=>hb.block k h2,Flat.moves aN.moves hm _ _ hf⟩
 ·rcases hY k hk with q|q
  ·exact h1.xlt k q
  omega
 ·rcases hY k hk with q|q
  ·exact h.xn k e q
  have:=h.nLt e;omega
 rcases hY k hk with q|q
 ·exact h.xv k e q
 have:=h.vLt e;omega
def eW.move(h:eW X w bs bb nv vv g next)(a5:cR X w w1)(hY:∀k,Y k->X k\/(w.1.size<=k/\k<w1.1.size)):eW Y w1 bs bb nv vv g next:=by
 have hbl:=h.Gj;have hlt:=h.lt;have h1:=h.keep (w':=w1) (h.src.keep fun i hi=>a5.block i Tc1 (fun q=>by have:=h.xlt i q;omega)) a5.size (fun k _ h2 hn=>a5.block k h2 hn);have hm:Mv (okB X bb nv vv) (okB Y bb nv vv) w w1:=⟨a5.size,fun b gO ho=>⟨⟨ho.1,ho.2.1,ho.2.2.1,fun hy=>(hY b hy).elim ho.2.2.2 Tc1⟩,a5.block b gO ho.2.2.2⟩⟩;refine⟨h1.src,h.lt,?_,h1.ownN,?_,h.ne,fun k hk=>?_,fun k e hk=>?_,fun k e hk=>?_⟩
 ·obtain⟨tv,dv,hv,e,q1,q2,q3⟩:=h.blk;exact⟨tv,dv,hv,(a5.block bb hbl (fun q=>by have:=h.xlt bb q;omega)).trans e,(ck.moves aF.moves).mv hm q1,(ck.moves aO.moves).mv hm q2,q3⟩
 ·have mb:=fun k e=>h.vLt (k:=k) e
  obtain⟨cs,ho,hf⟩:=h.ownV;exact⟨cs,aC ho fun k e=>a5.block k (mb k e).2 (h.xv k e),Flat.moves aN.moves hm _ _ hf⟩
 ·rcases hY k hk with q|q
  ·exact h1.xlt k q
  omega
 ·rcases hY k hk with q|q
  ·exact h.xn k e q
  have:=h.nLt e;omega
 rcases hY k hk with q|q
 ·exact h.xv k e q
 have:=h.vLt e;omega
def aH.refl(h:eW X w bs bb nv vv g next):aH X bs bb nv vv w w nv vv g next:=⟨h,cR.refl _ _,fun _ hk=>.inl hk,fun _ hk=>.inl hk⟩
def aH.trans(p:aH X bs bb rK rN w0 w1 GC Ds g1 n1)(q:aH Y bs bb GC Ds w1 w2 X0 OJ g2 n2):aH Y bs bb rK rN w0 w2 X0 OJ g2 n2:=by
 refine⟨q.bld,p.mod.trans q.mod (fun i hi=>?_),fun k hk=>(q.nfr k hk).elim (p.nfr k) (fun h=>.inr (cA p.mod.size h)),fun k hk=>(q.vfr k hk).elim (p.vfr k) (fun h=>.inr (cA p.mod.size h))⟩;rcases hi with h|h|h|h
 ·exact .inl (.inl h)
 ·exact .inl (.inr (.inl h))
 ·exact(p.nfr i h).elim (fun e=>.inl (.inr (.inr (.inl e)))) .inr
 exact(p.vfr i h).elim (fun e=>.inl (.inr (.inr (.inr e)))) .inr
def aH.fewer(p:aH X bs bb rK rN w0 w1 GC Ds g1 n1)(hY:∀k,Y k->X k):aH Y bs bb rK rN w0 w1 GC Ds g1 n1:=⟨p.bld.fewer hY,p.mod,p.nfr,p.vfr⟩
def aH.fresh(p:aH X bs bb rK rN w0 w1 GC Ds g1 n1)(hb:Below w1.1.size w1 w2)(hY:∀k,Y k->X k\/(w1.1.size<=k/\k<w2.1.size)):aH Y bs bb rK rN w0 w2 GC Ds g1 n1 :=
 ⟨p.bld.fresh hb hY,p.mod.trans (G:=fun _=>False) (cR.of_below hb) (fun _ f=>f.elim),p.nfr,p.vfr⟩
def aH.after(p:aH X bs bb rK rN w0 w1 GC Ds g1 n1)(hb:Below w1.1.size w1 w2):aH X bs bb rK rN w0 w2 GC Ds g1 n1:=p.fresh hb fun _ h=>.inl h
def aH.read(p:aH X bs bb rK rN w0 w1 GC Ds g1 n1)(hs:Src w2 bs)(hm:cR (fun i=>i=bs) w1 w2):aH X bs bb rK rN w0 w2 GC Ds g1 n1:=p.trans (p.bld.readPost hs hm)
def aH.own(p:aH X bs bb rK rN w0 w1 GC Ds g1 n1)(hm:cR (fun k=>X k/\w0.1.size<=k) w1 w2):aH X bs bb rK rN w0 w2 GC Ds g1 n1:=by
 have hx:=fun k (hk:k<w1.1.size) (hn:¬X k)=>hm.block k hk (fun q=>hn q.1);have hbl:=p.bld.Gj;have hlt:=p.bld.lt;refine⟨p.bld.keep (p.bld.src.keep fun i hi=>hx i Tc1 (fun q=>by have:=p.bld.xlt i q;omega)) hm.size (fun k _ h2 hn=>hx k h2 hn),p.mod.trans hm (fun i hi=>.inr hi.2),p.nfr,p.vfr⟩
def aH.move(p:aH X bs bb rK rN w0 w1 GC Ds g1 n1)(hm:cR (fun k=>X k/\w0.1.size<=k) w1 w2)(hY:∀k,Y k->X k\/(w1.1.size<=k/\k<w2.1.size)):aH Y bs bb rK rN w0 w2 GC Ds g1 n1 :=
 ⟨p.bld.move (hm.mono fun _ q=>q.1) hY,p.mod.trans hm (fun _i hi=>.inr hi.2),p.nfr,p.vfr⟩
def aH.put(p:aH X bs bb rK rN w0 w1 GC Ds g1 n1)(b i:Nat)(u:Value)(hb:X b)(h0:w0.1.size<=b):aH X bs bb rK rN w0 (w1.setCell (b,i) u) GC Ds g1 n1 :=
 p.own ((cR.refl _ _).setCell (p:=⟨b,i,none⟩) (.inl ⟨hb,h0⟩) _)
def aH.drewN(p:aH X bs bb rK rN w0 w1 GC Ds g1 n1)(n:Nat):aH X bs bb rK rN w0 (w1.drewN n) GC Ds g1 n1:=p.own ((cR.refl _ _).drewN _)
def aH.loc(p:aH Y bs bb nv vv w w1 GC Ds g1 n1)(h:eW X w bs bb nv vv g next)(hk:X k):w1.1[k]?=w.1[k]?:=p.mod.block k (h.xlt k hk).2 (h.xfp hk)
def aH.loc'(p:aH Y bs bb nv vv w w1 GC Ds g1 n1)(h:eW X w bs bb nv vv g next)(hk:okB X bb nv vv k)(hl:k<w.1.size):w1.1[k]?=w.1[k]?:=p.mod.block k hl (h.okfp hk)
end
variable {X:Nat->Prop}{w w1 w2:World}{bs bb N sz ga gb:Nat}{nv vv z:Value}{g:af}{p:ay}{α:Type}{t e:TypeId}{i0:TypeInfo}{u:List Value}
def eW.pushVol{v1:Value}{next:List Int}(h:eW X w bs bb nv vv g next)(ho:bF aN 6 68 (bb+1) (fun b=>okB X bb nv vv b/\b<N) w1 v1 (g.F9++[p]))(hN:N<=w.1.size)(hg:w.grownBy w1 vv.ownBlock)(hat:v1.ownBlock=vv.ownBlock\/v1.ownBlock=some w.1.size) :
  aH X bs bb nv vv w (w1.setCell (Tac bb 8) v1) nv v1 { g with F9:=g.F9++[p] } next:=by
 have hbl:=h.Gj;have hlt:=h.lt;have hz:=hg.size;have sA:∀k,k<w.1.size->vv.ownBlock≠some k->k≠bb->(w1.setCell (Tac bb 8) v1).1[k]?=w.1[k]?:=fun k hk hn hb=>(bw _ _ _ _ hb).trans (hg.block k hk (fun e=>hn e.symm));have hne:∀k,vv.ownBlock=some k->k≠bb:=fun k e=>by have:=h.vLt e;omega
 have XV:vv.ownBlock≠some bb:=fun e=>hne bb e rfl
 have gw:∀b,b<w.1.size->okB X bb nv vv b->okB X bb nv v1 b:=fun b hb ho=>⟨ho.1,ho.2.1,fun e=>by
  rcases hat with q|q
  ·exact ho.2.2.1 (q ▸ e)
  rw[q]at e;injection e with e;omega,ho.2.2.2⟩
 have TN:∀k,v1.ownBlock=some k->vv.ownBlock=some k\/w.1.size<=k:=fun k e=>by
  rcases hat with q|q
  ·exact .inl (q ▸ e)
  rw[q]at e;injection e with e;exact .inr Tc1
 have hm:Mv (okB X bb nv vv) (okB X bb nv v1) w (w1.setCell (Tac bb 8) v1):=⟨by simpa[AF]using hz,fun b hb ho=>⟨gw b hb ho,sA b hb ho.2.2.1 TdB⟩⟩;have a5:w1.1[bb]?=w.1[bb]?:=hg.block bb hbl (fun e=>XV e.symm);refine⟨⟨h.src.keep fun i hi=>sA i Tc1 (fun e=>by have:=h.vLt e;omega) Tc1,hlt,?_,?_,?_,fun k e e'=>?_,fun k hx=>⟨(h.xlt k hx).1,?_⟩,h.xn,fun k e=>?_⟩,?_,fun _ hk=>.inl hk,TN⟩
 ·obtain⟨tv,dv,hv,e,h1,h2,h3⟩:=h.blk;refine⟨tv,dv,hv,?_,(ck.moves aF.moves).mv hm h1,(ck.moves aO.moves).mv hm h2,h3⟩;exact block_setCell (cs:=#[_,_,_,_,_,_,_,_,_,_,_]) (i:=8) _ (a5.trans e)
 ·refine aC h.ownN fun k e=>sA k (h.nLt e).2 (h.ne k e) (by have:=h.nLt e;omega)
 ·obtain⟨cs,hr,hf⟩:=ho;refine⟨cs,aC hr fun k e=>?_,Flat.moves aN.moves ⟨Tdd,fun b hb ho=>⟨?_,?_⟩⟩ _ _ hf⟩
  ·refine bw _ _ _ _ (show k≠bb from ?_);rcases TN k e with q|q
   ·exact hne k q
   omega
  ·exact gw b (cC ho.2 hN) ho.1
  exact bw _ _ _ _ (show b≠bb from by have:=ho.1.1;omega)
 ·rcases TN k e' with q|q
  ·exact h.ne k e q
  have:=h.nLt e;omega
 ·have:=(h.xlt k hx).2;simp[AF];omega
 ·rcases TN k e with q|q
  ·exact h.xv k q
  exact fun hx=>by have:=(h.xlt k hx).2;omega
 refine cR.setCell (p:=⟨bb,8,none⟩) ⟨hg.os,hg.tape,hg.output,hg.size,fun k hk hn=>hg.block k hk (fun e=>hn (.inr (.inr (.inr e.symm))))⟩ (.inl (.inr (.inl rfl))) _
structure jN{α:Type}(V:jx α)(sz:Nat)(e:TypeId)(B:Nat)(ok:Nat->Prop)(w:World)(v:Value)(l:List α)(p:α)(u:List Value)(gb cap:Nat)(w':World):Prop where
 own:bF V sz e B ok w' (.slice (some gb) (l.length+1) cap) (l++[p])
 grown:w.grownBy w' v.ownBlock
 at':v.ownBlock=some gb\/gb=w.heap.size
 last:∀(j:Nat) (y:Value),u[j]?=some y->w'.cell? (gb,l.length*sz+j)=some y
def nS{V:jx α}(hV:Moves V){ty:TypeId}(hu:prog.underlying t=some (.slice e))(hi:prog.info? e=some i0)(hz:i0.zero=some z)(a5:i0.size=sz)(ae:i0.bytes=ga)(af:z.cells.size=sz)(mu:0<sz)(Hv:ga<=1000)
  {w:World} (B:Nat) (ok:Nat->Prop) (v:Value) (l:List α) (p:α) (a7:bF V sz e B ok w v l) (g c:Nat) (u:List Value)
  (ez:u.length=sz) (ag:V ok w u p) (ab:∀z∈u,z.oneCell'=true) (hc:∀(j:Nat) (y:Value),u[j]?=some y->w.cell? (g,j)=some y) (hl:l.length<=1000000) (hB:B<=w.1.size)
  (gw:∀b,v.ownBlock=some b->¬ok b) :
  ∃gb cap w',(Builtin.append_ #[t,t] ty #[v,.slice (some g) 1 c]).run prog w=.ok (.slice (some ⟨gb,0,none⟩) (l.length+1) cap) w'/\jN V sz e B ok w v l p u gb cap w':=by
 obtain⟨cs,a8,hf⟩:=a7;obtain⟨v',w',hr,a9,aa,_,hat⟩:=run_append_own_at (P:=prog) w B t ty e i0 z sz ga hu hi hz a5 ae af mu v l.length cs a8 ⟨g,0,none⟩ 1 c u Tc1 (fun j y hy=>by
  rw[iz,eJ];exact hc j y hy) ab Tda TeV hB
 have hm:Mv ok ok w w':=⟨aa.size,fun b hb gR=>⟨gR,aa.block b hb (fun e=>gw b e.symm gR)⟩⟩;have ah:cs.length=l.length*sz:=Flat.length _ _ hf;have h1:bF V sz e B ok w' v' (l++[p]):=⟨cs++u,by rw[cD];exact a9,(Flat.one ez (hV.mv hm ag) ab).append _ _ (Flat.moves hV hm _ _ hf)⟩;have ai:=a9.2;rcases ai with⟨_,hn⟩|⟨gb,cap,aj,rfl,hb,hg,vr,hcm,ak,ht⟩
 ·omega
 refine⟨gb,cap,w',hr,h1,aa,?_,fun j y hy=>?_⟩
 ·rcases hat with q|q
  ·exact .inl q.symm
  injection q with q;exact .inr q
 have hj:j<sz:=by rw[<- ez];exact(AT.1 hy).1
 rw[a9.cellAt (l.length*sz+j) (by rw[Oy];omega),Cp Tc1,ah,Nat.add_sub_cancel_left];exact hy
def dX{V:jx α}(hV:Moves V)(hu:prog.underlying t=some (.slice e))(hi:prog.info? e=some i0)(hz:i0.zero=some z)(a5:i0.size=sz)(a8:i0.bytes=ga)(a9:z.cells.size=sz)(mu:0<sz)(Hv:ga<=1000)
  {w:World} {ops:Array Oper} {rest:List Oper} {o:Oper} {a:Act} {Q:Exit->Act->World->Prop} (aa:o.guard=none) (s x:Operand)
  (ho:o.op=.call { callee:=.builtin .append,args:=#[s,x],argTypes:=#[t,t] })
  (B:Nat) (ok:Nat->Prop) (v:Value) (l:List α) (p:α) (hs:a.eval s=v) (a7:bF V sz e B ok w v l) (g c:Nat) (u:List Value) (hx:a.eval x=.slice (some g) 1 c)
  (ez:u.length=sz) (ab:V ok w u p) (ae:∀z∈u,z.oneCell'=true) (hc:∀(j:Nat) (y:Value),u[j]?=some y->w.cell? (g,j)=some y) (hl:l.length<=1000000) (hB:B<=w.1.size)
  (gw:∀b,v.ownBlock=some b->¬ok b)
  (h:∀gb cap w',jN V sz e B ok w v l p u gb cap w'->wpList prog ops Q rest (a.put o.dst (.slice (some ⟨gb,0,none⟩) (l.length+1) cap)) w'):wpList prog ops Q (o :: rest) a w:=by
 refine wpList_plain aa fun K hK=>?_;obtain⟨gb,cap,w',hr,hp⟩:=nS (ty:=o.type) hV hu hi hz a5 a8 a9 mu Hv B ok v l p a7 g c u ez ab ae hc hl hB gw;unfold Oper.wp execOp;simp only[ho,resolve,invoke,builtin,Sem.run_bind,Sem.run_pure,ud,tS,iu,List.map_nil,hs,hx,hr];exact hK _ _ (h gb cap w' hp)
def mU{V:jx α}(hV:Moves V)(hu:prog.underlying t=some (.slice e))(hi:prog.info? e=some i0)(hz:i0.zero=some z)(a5:i0.size=sz)(a8:i0.bytes=ga)(a9:z.cells.size=sz)(mu:0<sz)(Hv:ga<=1000)
  {o:Oper} {dd:Tmp} {a:Act} {w:World} {K:Act->World->Prop} {Q:Exit->Act->World->Prop}
  (aa:o.dst=some dd) (s x:Operand) (ab:o.op=Op.call { callee:=Callee.builtin Builtin.append,args:=#[s,x],argTypes:=#[t,t] })
  (B:Nat) (ok:Nat->Prop) (v:Value) (l:List α) (p:α) (hs:a.eval s=v) (a7:bF V sz e B ok w v l) (g c:Nat) (u:List Value) (hx:a.eval x=.slice (some g) 1 c)
  (ez:u.length=sz) (ae:V ok w u p) (af:∀z∈u,z.oneCell'=true) (hc:∀(j:Nat) (y:Value),u[j]?=some y->w.cell? (g,j)=some y) (hl:l.length<=1000000) (hB:B<=w.1.size)
  (gw:∀b,v.ownBlock=some b->¬ok b)
  (hK:∀gb cap w',jN V sz e B ok w v l p u gb cap w'->K (a.put (some dd) (.slice (some ⟨gb,0,none⟩) (l.length+1) cap)) w'):Oper.wp prog o a w K Q:=by
 obtain⟨gb,cap,w',hr,hp⟩:=nS (ty:=o.type) hV hu hi hz a5 a8 a9 mu Hv B ok v l p a7 g c u ez ae af hc hl hB gw;unfold Oper.wp;simp[execOp,ab,resolve,invoke,builtin,hs,hx,hr,Result.andThen];show K (a.put o.dst _) w';rw[aa];exact hK gb cap w' hp
def eW.okNew{next:List Int}(h:eW X w bs bb nv vv g next){k:Nat}(hk:w.1.size<=k):okB X bb nv vv k :=
 ⟨by have:=h.Gj;omega,fun e=>by have:=h.nLt e;omega,fun e=>by have:=h.vLt e;omega,fun hx=>by have:=h.xlt k hx;omega⟩
def ck.one{V:jx α}{ok:Nat->Prop}{b:Nat}{x:α}(hb:w.1[b]?=some (.cells u.toArray t (0,0)))(ho:ok b)(hu:u.length=sz)(hv:V ok w u x):ck V sz ok w [.slice (some b) 1 1] [x]:=by
 refine⟨some ⟨b,0,none⟩,1,rfl,Tc2,Tc1,fun _=>⟨b,0,rfl,aq hb,ho,fun i y hy=>?_⟩⟩
 match i,hy with
 |0,hy =>
  simp at hy;subst hy;refine⟨u,hu,hv,fun j z hz=>?_⟩;simp[AN,hb,hz]
 |i+1,hy=>simp at hy
def ck.nil{V:jx α}{ok:Nat->Prop}:ck V sz ok w [.slice none 0 0] []:=⟨none,0,rfl,Tc2,Tc1,fun h=>absurd h Tc2⟩
def eW.ready{next:List Int}(h:eW X w bs bb nv vv g next)(hp:aN (okB X bb nv vv) w u p)(w1:World)(hb:Below w.1.size w w1) :
  bF aN 6 68 (bb+1) (fun b=>okB X bb nv vv b/\b<w.1.size) w1 vv g.F9/\aN (fun b=>okB X bb nv vv b/\b<w.1.size) w1 u p:=by
 have hm:Mv (okB X bb nv vv) (fun b=>okB X bb nv vv b/\b<w.1.size) w w1:=⟨hb.size,fun b a5 ho=>⟨⟨ho,a5⟩,hb.block b a5⟩⟩;obtain⟨cs,ho,hf⟩:=h.ownV;exact⟨⟨cs,eF ho fun k _ h2=>hb.block k h2,Flat.moves aN.moves hm _ _ hf⟩,aN.moves.mv hm hp⟩
def H8 :∀b,vv.ownBlock=some b->¬(okB X bb nv vv b/\b<N):=fun _ e ho=>ho.1.2.2.1 e
def eW.pushKeeps{cap:Nat}{next:List Int}(h:eW X w bs bb nv vv g next)(hb:Below w.1.size w w1)(hp:jN aN 6 68 (bb+1) (fun b=>okB X bb nv vv b/\b<N) w1 vv g.F9 p u gb cap w2) :
  w2.1[bb]?=w.1[bb]?/\∀k,X k->w2.1[k]?=w.1[k]?:=by
 have hbl:=h.Gj;refine⟨(hp.grown.block bb (cC hbl hb.size) (fun e=>by have:=h.vLt e.symm;omega)).trans (hb.block bb hbl),fun k hk=>?_⟩;have Vk:=(h.xlt k hk).2;exact(hp.grown.block k (cC Vk hb.size) (fun e=>h.xv k e.symm hk)).trans (hb.block k Vk)
def aH.push{w0:World}{cap:Nat}{rK rN:Value}{next:List Int}(h:aH X bs bb rK rN w0 w nv vv g next)(hb:Below w.1.size w w1)(hp:jN aN 6 68 (bb+1) (fun b=>okB X bb nv vv b/\b<N) w1 vv g.F9 p u gb cap w2)(hN:N<=w.1.size) :
  aH X bs bb rK rN w0 (w2.setCell (Tac bb 8) (.slice (some gb) (g.F9.length+1) cap)) nv (.slice (some gb) (g.F9.length+1) cap) { g with F9:=g.F9++[p] } next:=by
 have h1:=h.after hb;refine h1.trans (h1.bld.pushVol hp.own (cA hN hb.size) hp.grown ?_);rcases hp.at' with q|q
 ·exact .inl q.symm
 exact .inr (by rw[q];rfl)
def Tak :Tab #[.string ⟨#[]⟩,.int .u64 0,.bool false,.bool false,.slice none 0 0,.slice none 0 0]:=⟨⟩
def zT:(prog.info? 68).map (fun i=>(i.zero,i.size,i.bytes))=some (some (.agg Tak),6,80):=by kernel_rfl
def Tav :Tab #[.int .i64 0,.int .i64 0,.int .i64 0,.slice none 0 0,.int .i64 0,.slice none 0 0,.string ⟨#[]⟩,.string ⟨#[]⟩,.int .i64 0,.int .i64 0,.int .i64 0]:=⟨⟩
def Am:(prog.info? 114).map (fun i=>(i.zero,i.size,i.bytes))=some (some (.agg Tav),11,136):=by kernel_rfl
def kL:(prog.info? 53).map (fun i=>(i.zero,i.size,i.bytes))=some (some (.agg Tat),3,32):=by kernel_rfl
section
variable {P:Program}{ops:Array Oper}{Q:Exit->Act->World->Prop}{md:Region.Mode}{S:World->Prop}{m:Nat}{N:Nat->Bool}
variable {a a0:Act}{w:World}{listed:Array Bool}{j i t fuel:Nat}{oi:Oper}{v:Value}{d:Tmp}{ws:List Nat}{l:List Oper}{F:Nat->(Nat->Value)->World->Prop}{C:(Nat->Bool)->World->Prop}{Ev:Nat->World->World->Prop}{idx:List (Nat × Nat)}{p:Nat × Nat}{ag:Nat->List Nat}
def bG(P:Program)(md:Region.Mode)(ops:Array Oper)(Q:Exit->Act->World->Prop)(S:World->Prop)(N:Nat->Bool):Nat->Array Bool->Act->World->Prop
 |0,listed,a,w=>BE md ops listed=[]/\Q .normal a w
 |fuel+1,listed,a,w =>
  (BE md ops listed=[]->Q .normal a w) /\
  ∀i∈BE md ops listed,wpOp P ops Q i (fun a' w'=>(N i=true->S w')/\bG P md ops Q S N fuel (listed.setIfInBounds i true) a' w') a w
def mF:∀(fuel:Nat) (listed:Array Bool) (a:Act) (w:World),bG P md ops Q S N fuel listed a w->wpAny P md ops Q fuel listed a w
 |0,_,_,_,h=>h
 |fuel+1,_,_,_,h=>⟨h.1,fun i hi=>wpOp_mono (fun a' w' h'=>mF fuel _ a' w' h'.2) (h.2 i hi)⟩
def needs(m:Nat)(ws:List Nat):Nat->Bool:=fun i=>decide (i<m)&&!ws.contains i
theorem aL{id:Nat}(S:World->Prop)(m:Nat)(ws:List Nat)(hm:P.follows .mixedOrders=true)(hS:S w.drew)
  (h:S w.drew->bG P .any ops Q S (needs m ws) ops.size (GO ops.size false) a w.drew):(Code.region id ops true).wp P Q a w :=
 wp_region_any hm (mF _ _ _ _ (h hS))
def Clo(md:Region.Mode)(ops:Array Oper)(listed:Array Bool):Prop:=∀(j:Nat) (oj:Oper),ops[j]?=some oj->listed.getD j false=true->∀e∈oj.after,DQ md e=true->listed.getD e.on false=true
def BF(md:Region.Mode)(ops:Array Oper)(listed:Array Bool):Bool:=(FF ops.size).all fun j=>match ops[j]? with
 |some oj=>!listed.getD j false||oj.after.all fun e=>!Region.binds md e||listed.getD e.on false
 |none=>true
def oK(h:BF md ops listed=true):Clo md ops listed:=fun j oj hj hl e he hb=>by
 have:=An.1 h j (EV.2 (DS.1 hj).1);simp only[hj,hl,Bool.not_true,nj]at this;have:=Array.all_eq_true_iff_forall_mem.1 this e he;simpa[hb]using this
def Clo.set(h:Clo md ops listed)(hj:j∈BE md ops listed):Clo md ops (listed.setIfInBounds j true):=fun k ok hk hl e he hb=>by
 by_cases hjk:j=k
 ·subst hjk;obtain⟨_,o,ho,hall⟩:=mem_ready.1 hj;rw[hk]at ho;injection ho with ho;subst ho;exact getD_set_true (hall e he hb)
 rw[ly false hjk]at hl;exact getD_set_true (h k ok hk hl e he hb)
def ky(md:Region.Mode)(ops:Array Oper):Nat->Nat->Nat->Bool
 |0,_,_=>false
 |f+1,t,i=>Lo md ops t i||(match ops[t]? with
  |some o=>o.after.any fun e=>DQ md e&&ky md ops f e.on i
  |none=>false)
def mP(hc:Clo md ops listed):∀(f t:Nat) (o:Oper),ops[t]?=some o->(∀e∈o.after,DQ md e=true->listed.getD e.on false=true)->ky md ops f t i=true->listed.getD i false=true
 |0,_,_,_,_,h=>by cases h
 |f+1,t,o,ho,hall,h=>by
  simp only[ky,ho,tG]at h;rcases h with h|h
  ·obtain⟨ot,a5,e,he,hb,a7⟩:=A5 h;rw[ho]at a5;injection a5 with a5;subst a5;rw[<- a7];exact hall e he hb
  obtain⟨k,hk,h2⟩:=Array.any_eq_true.1 h;simp only[eh]at h2;have hl:=hall _ (Array.getElem_mem hk) h2.1;cases UX:ops[(o.after[k]).on]? with
  |none =>
   cases f with
   |zero=>simp[ky]at h2
   |succ f=>simp[ky,UX,Lo]at h2
  |some oe=>exact mP hc f _ oe UX (hc _ oe UX hl) h2.2
def nW{f:Nat}(hc:Clo md ops listed)(hw:ky md ops f t i=true)(hi:listed.getD i true=false):t ∉ BE md ops listed:=fun ht=>by
 obtain⟨_,o,ho,hall⟩:=mem_ready.1 ht;have h1:=mP hc f t o ho hall hw;rw[getD_both hi]at h1;cases h1
def lM(md:Region.Mode)(ops:Array Oper)(N:Nat->Bool)(listed:Array Bool)(i:Nat):Bool:=(FF ops.size).all fun t=>N t||listed.getD t true||ky md ops ops.size t i
def Gs(h:lM md ops N listed i=true)(ht:N t=false)(hs:t<ops.size)(hu:listed.getD t true=false):ky md ops ops.size t i=true:=by
 have:=An.1 h t (EV.2 hs);simp only[ht,hu,nj]at this;exact this
def uJ(h:lM md ops N listed i=true):lM md ops N (listed.setIfInBounds j true) i=true:=by
 refine An.2 fun t ht=>?_;have:=An.1 h t ht;simp only[tG]at this ⊢;rcases this with(q|q)|q
 ·exact .inl (.inl q)
 ·refine .inl (.inr ?_);by_cases e:j=t
  ·subst e;by_cases hs:j<listed.size
   ·simp[hs]
   simp[]
  rw[ly true e];exact q
 exact .inr q
def mV(h:j∈BE md ops listed):j<ops.size:=by
 obtain⟨_,o,ho,_⟩:=mem_ready.1 h;exact(DS.1 ho).1
def uN(hi:ops[i]?=some oi)(mj:∀(j:Nat) (o:Oper) cs b,ops[j]?=some o->o.op≠.select cs b)
  (hQ:∀c a w,Q (.panic c) (a.put oi.dst v) w->Q (.panic c) a w) :
  ∀(fuel:Nat) (listed:Array Bool) (a:Act) (w:World),lM md ops N listed i=true ->
   (∀j oj,ops[j]?=some oj->j≠i->listed.getD j true=false->(∀e∈oj.after,DQ md e=true->e.on≠i)->oi.apart ops oj=true) ->
   Clo md ops listed->i∈BE md ops listed->YieldsIf P ops S oi v a->S w ->
   bG P md ops Q S N fuel (listed.setIfInBounds i true) (a.put oi.dst v) w->bG P md ops Q S N (fuel+1) listed a w:=by
 intro fuel;induction fuel with
 |zero =>
  intro listed a w _ _ _ hr hy hS H;refine⟨fun h=>Tdo,fun j hj=>?_⟩;by_cases nr:j=i
  ·subst nr;exact hy.wpOp hi hS ⟨fun _=>hS,H⟩
  have:=ix hj nr;rw[H.1]at this;cases this
 |succ fuel ih =>
  intro listed a w hl oc hc hr hy hS H;have pN:=(mem_ready.1 hr).1;refine⟨fun h=>Tdo,fun j hj=>?_⟩;by_cases nr:j=i
  ·subst nr;exact hy.wpOp hi hS ⟨fun _=>hS,H⟩
  have UY:N j=true:=by
   cases hN:N j with
   |true=>rfl
   |false=>exact absurd hj (nW hc (Gs hl hN (mV hj) (mem_ready.1 hj).1) pN)
  have h1:=H.2 j (ix hj nr);obtain⟨zj,oj,F0,hall⟩:=mem_ready.1 hj;have a5:∀e∈oj.after,DQ md e=true->e.on≠i:=fun e he hb heq=>by
   have h1:=hall e he hb;rw[heq,getD_both pN]at h1;cases h1
  have h2:=wpOp_putIf F0 (oc j oj F0 nr zj a5) (fun cs b=>mj i oi cs b hi) (fun cs b=>mj j oj cs b F0) hQ hy h1;have pP:∀k ok,ops[k]?=some ok->k≠i->(listed.setIfInBounds j true).getD k true=false ->
    (∀e∈ok.after,DQ md e=true->e.on≠i)->oi.apart ops ok=true:=fun k ok hk XQ pN hno=>by
   refine oc k ok hk XQ ?_ hno;by_cases hjk:j=k
   ·subst hjk;exact zj
   rw[ly true hjk]at pN;exact pN
  refine wpOp_mono (fun a' w' h3=>⟨h3.2.1,ih (listed.setIfInBounds j true) a' w' (uJ hl) pP (hc.set hj) (ix hr (Ne.symm nr)) h3.1 (h3.2.1 UY) ?_⟩) h2;rw[FA _ _ nr];exact h3.2.2
def TdC{p:Prop}(h:p:=by simpa using h3):p:=h
def o7(hi:ops[i]?=some oi)(hd:oi.dst=some d)
  (hb:(GB ops&&IS md ops listed i&&(BE md ops listed).contains i&&lM md ops N listed i&&BF md ops listed)=true)
  (hQ:∀c a w,Q (.panic c) (a.put (some d) v) w->Q (.panic c) a w) (hy:YieldsIf P ops S oi v a) (hS:S w)
  (h:bG P md ops Q S N fuel (listed.setIfInBounds i true) (a.put (some d) v) w):bG P md ops Q S N (fuel+1) listed a w:=by
 simp only[eh]at hb;obtain⟨⟨⟨⟨h1,h2⟩,h3⟩,h4⟩,h5⟩:=hb;rw[<- hd]at hQ h;exact uN hi (XS h1) hQ fuel listed a w h4 (Region.free_spec hi h2) (oK h5) TdC hy hS h
def sG(hi:ops[i]?=some oi)(mj:∀(j:Nat) (o:Oper) cs b,ops[j]?=some o->o.op≠.select cs b)
  (hN:N i=false) (hQ:∀c a w,Q (.panic c) (a.put oi.dst v) w->Q (.panic c) a w) :
  ∀(fuel:Nat) (listed:Array Bool) (a:Act) (w:World),
   (∀j oj,ops[j]?=some oj->j≠i->listed.getD j true=false->(∀e∈oj.after,DQ md e=true->e.on≠i)->oi.apart ops oj=true) ->
   i∈BE md ops listed->YieldsIf P ops (fun _=>True) oi v a ->
   bG P md ops Q S N fuel (listed.setIfInBounds i true) (a.put oi.dst v) w->bG P md ops Q S N (fuel+1) listed a w:=by
 have hv:∀w:World,N i=true->S w:=fun w h=>by rw[hN]at h;cases h
 intro fuel;induction fuel with
 |zero =>
  intro listed a w _ hr hy H;refine⟨fun h=>Tdo,fun j hj=>?_⟩;by_cases nr:j=i
  ·subst nr;exact hy.wpOp hi trivial ⟨hv _,H⟩
  have:=ix hj nr;rw[H.1]at this;cases this
 |succ fuel ih =>
  intro listed a w oc hr hy H;have pN:=(mem_ready.1 hr).1;refine⟨fun h=>Tdo,fun j hj=>?_⟩;by_cases nr:j=i
  ·subst nr;exact hy.wpOp hi trivial ⟨hv _,H⟩
  have h1:=H.2 j (ix hj nr);obtain⟨zj,oj,F0,hall⟩:=mem_ready.1 hj;have a5:∀e∈oj.after,DQ md e=true->e.on≠i:=fun e he hb heq=>by
   have h1:=hall e he hb;rw[heq,getD_both pN]at h1;cases h1
  have h2:=wpOp_putIf F0 (oc j oj F0 nr zj a5) (fun cs b=>mj i oi cs b hi) (fun cs b=>mj j oj cs b F0) hQ hy h1;have pP:∀k ok,ops[k]?=some ok->k≠i->(listed.setIfInBounds j true).getD k true=false ->
    (∀e∈ok.after,DQ md e=true->e.on≠i)->oi.apart ops ok=true:=fun k ok hk XQ pN hno=>by
   refine oc k ok hk XQ ?_ hno;by_cases hjk:j=k
   ·subst hjk;exact zj
   rw[ly true hjk]at pN;exact pN
  refine wpOp_mono (fun a' w' h3=>⟨h3.2.1,ih (listed.setIfInBounds j true) a' w' pP (ix hr (Ne.symm nr)) h3.1 ?_⟩) h2;rw[FA _ _ nr];exact h3.2.2
def nz(hi:ops[i]?=some oi)(hd:oi.dst=some d)
  (hb:(GB ops&&IS md ops listed i&&(BE md ops listed).contains i&&!N i)=true)
  (hQ:∀c a w,Q (.panic c) (a.put (some d) v) w->Q (.panic c) a w) (hy:YieldsIf P ops (fun _=>True) oi v a)
  (h:bG P md ops Q S N fuel (listed.setIfInBounds i true) (a.put (some d) v) w):bG P md ops Q S N (fuel+1) listed a w:=by
 simp only[eh,tz]at hb;obtain⟨⟨⟨h1,h2⟩,h3⟩,h4⟩:=hb;rw[<- hd]at hQ h;exact sG hi (XS h1) h4 hQ fuel listed a w (Region.free_spec hi h2) TdC hy h
def gM:∀(l:List Oper) (k:Nat) (listed:Array Bool) (a:Act) (w:World),(∀t,k<=t->N t=false)->(∀j,l[j]?=ops[k+j]?) ->
  Is md ops l.length k listed=true->wpList P ops Q l a w->bG P md ops Q S N l.length listed a w
 |[],_,_,_,_,_,_,hB,h=>⟨by simpa[Is]using hB,h⟩
 |o :: l,k,listed,a,w,hm,hl,hB,h=>by
  have h0:ops[k]?=some o:=by simpa using(hl 0).symm
  simp only[cS,Is,eh,fk]at hB;refine⟨fun h1=>(by rw[hB.1]at h1;cases h1),fun i hi=>?_⟩;rw[hB.1]at hi;have a5:i=k:=by simpa using hi
  subst a5;have hw:wpOp P ops Q i (wpList P ops Q l) a w:=by unfold wpOp;simp only[h0];exact h
  exact wpOp_mono (fun a' w' h'=>⟨fun h=>(by rw[hm i (bk _)]at h;cases h),gM l (i+1) _ a' w' (fun t ht=>hm t Tc1) (fun j=>by have:=hl (j+1);simpa[Nat.add_assoc,Nat.add_comm 1 j]using this) hB.2 h'⟩) hw
def Tcr{p:Prop}(h:p:=by
 unfold wpOp;simp only[hi,hw,ej];exact .inl (h _ (aa fun a' w' h1 h2=>⟨fun _=>h1,h2⟩))):p:=h
def TdA{p:Prop}(h:p:=by rw[hr]at h0;cases h0):p:=h
def au{o:Oper}(hi:ops[i]?=some o)(hg:o.guard=none)(hr:BE md ops listed=[i])
  (h:∀K:Act->World->Prop,Hid (∀a' w',S w'->bG P md ops Q S N fuel (listed.setIfInBounds i true) a' w'->K a' w')->o.wp P a w K Q):bG P md ops Q S N (fuel+1) listed a w:=by
 refine⟨fun h0=>TdA,fun j hj=>?_⟩;rw[hr]at hj;obtain rfl:j=i:=by simpa using hj
 have hw:By o (yielded ops a.tmps)=true:=by simp[By,hg]
 exact Tcr
def qJ :∀t,m<=t->needs m ws t=false:=fun t ht=>by simp[needs];omega
def aP(hB:Is md l.toArray (l.toArray.size-m) m listed=true)(hf:fuel=(l.drop m).length)(h:wpList P l.toArray Q (l.drop m) a w):bG P md l.toArray Q S (needs m ws) fuel listed a w:=by
 rw[hf];exact gM (l.drop m) m listed a w qJ (fun j=>by simp[pk]) (by simpa using hB) h
def over(a:Act)(js:List (Nat × Nat))(vs:Nat->Value):Act:=js.foldl (fun a p=>a.put (some p.2) (vs p.1)) a
def dW(a:Act)(p:Nat × Nat)(js:List (Nat × Nat))(vs:Nat->Value):over a (p :: js) vs=over (a.put (some p.2) (vs p.1)) js vs:=rfl
def Cn(js:List (Nat × Nat))(vs:Nat->Value)(d:Nat)(v:Value):∀a:Act,(∀p∈js,p.2≠d)->over (a.put (some d) v) js vs=(over a js vs).put (some d) v:=by
 induction js with
 |nil=>intro a _;rfl
 |cons p js ih =>
  intro a h;rw[dW,dW,<- ih _ (fun q hq=>h q (kn _ hq)),Act.put_comm a v (vs p.1) (fun e he=>by
   injection he with he;subst he;intro hc;injection hc with hc;exact h p (cG ..) hc)]
def zx{vs us:Nat->Value}(js:List (Nat × Nat)):∀a:Act,(∀p∈js,vs p.1=us p.1)->over a js vs=over a js us:=by
 induction js with
 |nil=>intro a _;rfl
 |cons p js ih =>
  intro a h;rw[dW,dW,h p (cG ..)];exact ih _ fun q hq=>h q (kn _ hq)
def xm(js:List (Nat × Nat))(vs:Nat->Value):∀a:Act,over a js vs={ a with tmps:=(over a js vs).tmps }:=by
 induction js with
 |nil=>intro a;rfl
 |cons p js ih =>
  intro a;rw[dW,ih];rfl
def mE(js:List (Nat × Nat))(vs:Nat->Value)(t:Nat):∀a:Act,(∀p∈js,p.2≠t)->(over a js vs).eval (.tmp t)=a.eval (.tmp t):=by
 induction js with
 |nil=>intro a _;rfl
 |cons p js ih =>
  intro a h;rw[dW,ih _ fun q hq=>h q (kn _ hq)];exact Act.eval_put fun d hd he=>by
   injection hd with hd;injection he with he;exact h p (cG ..) (hd.trans he.symm)
def zN(js:List (Nat × Nat))(vs:Nat->Value)(p:Nat × Nat):∀a:Act,(js.map (·.2)).Nodup->p∈js->(over a js vs).eval (.tmp p.2)=(a.put (some p.2) (vs p.1)).eval (.tmp p.2):=by
 induction js with
 |nil=>intro a _ h;cases h
 |cons q js ih =>
  intro a hn h;rw[iu,List.nodup_cons]at hn;rw[dW];rcases F1.1 h with rfl|h1
  ·exact mE js vs p.2 _ fun r hr e=>hn.1 (As.2 ⟨r,hr,e⟩)
  have hne:q.2≠p.2:=fun e=>hn.1 (As.2 ⟨p,h1,e.symm⟩)
  rw[ih _ hn.2 h1,Act.put_comm a (vs q.1) (vs p.1) (fun d hd hc=>by
   injection hd with hd;injection hc with hc;exact hne (hd.trans hc.symm))]
  exact Act.eval_put fun d hd he=>by
   injection hd with hd;injection he with he;exact hne (hd.trans he.symm)
def TdR{p:Prop}(h:p:=by simp[hq]):p:=h
def xc(vs:Nat->Value)(p:Nat × Nat)(v:Value)(f:Nat->Bool)(hf:f p.1=false):∀(js:List (Nat × Nat)) (a:Act),(js.map (·.2)).Nodup->(js.map (·.1)).Nodup->p∈js ->
  over a (js.filter fun q=>f q.1||q.1==p.1) (fun k=>if k=p.1 then v else vs k)=(over a (js.filter fun q=>f q.1) vs).put (some p.2) v:=by
 intro js;induction js with
 |nil=>intro a _ _ h;cases h
 |cons q js ih =>
  intro a hn hk h;rw[iu,List.nodup_cons]at hn hk;rcases F1.1 h with rfl|h1
  ·have e1:js.filter (fun q=>f q.1||q.1==p.1)=js.filter (fun q=>f q.1):=A0 fun r hr=>by
    have:r.1≠p.1:=fun e=>hk.1 (As.2 ⟨r,hr,e⟩);simp[this]
   rw[E1 Tc2,ae7 (by simp[hf]),dW,e1,Cn _ _ _ _ _ (fun r hr e=>hn.1 (As.2 ⟨r,(DP.1 hr).1,e⟩))];simp only[ej];rw[zx (us:=vs) _ _ fun r hr=>bh fun e=>hk.1 (As.2 ⟨r,(DP.1 hr).1,e⟩)]
  have Qa:q.1≠p.1:=fun e=>hk.1 (As.2 ⟨p,h1,e.symm⟩)
  by_cases hq:f q.1=true
  ·rw[E1 TdR,E1 (p:=fun(q:Nat × Nat)=>f q.1) hq,dW,dW,bh Qa];exact ih _ hn.2 hk.2 h1
  rw[ae7 (by simp[hq,Qa]),ae7 (p:=fun(q:Nat × Nat)=>f q.1) hq];exact ih _ hn.2 hk.2 h1
def mI(ops:Array Oper)(i:Nat)(p:Nat × Nat):Bool:=match ops[i]? with
 |some o=>(o.looksAt ops).contains p.2
 |none=>false
def uo(js:List (Nat × Nat))(vs:Nat->Value):∀a:Act,(over a js vs).tmps.size=a.tmps.size:=by
 induction js with
 |nil=>intro a;rfl
 |cons p js ih =>
  intro a;rw[dW,ih];simp[Act.put]
def Ck{o:Oper}{b:Act}{G:Value->World->Prop}(he:execOp a.eval o=execOp b.eval o)(mu:a.tmps.size=b.tmps.size)(hQ:∀c w,Q (.panic c) b w->Q (.panic c) a w)
  (h:o.wp P b w (fun a' w'=>∃v,a'=b.put o.dst v/\G v w') Q):o.wp P a w (fun a' w'=>∃v,a'=a.put o.dst v/\G v w') Q:=by
 have a5:∀(u:Value) (w:World),(∃v,b.put o.dst u=b.put o.dst v/\G v w)->∃x,a.put o.dst u=a.put o.dst x/\G x w:=fun u w ⟨v,e,g⟩=>by
  refine⟨v,?_,g⟩;cases hd:o.dst with
  |none=>rfl
  |some d =>
   rw[hd]at e;simp only[Act.put,Act.mk.injEq,and_true]at e ⊢;by_cases hlt:d<b.tmps.size
   ·have:=fj (fun t=>t[d]?) e;simp[hlt]at this;rw[this]
   rw[Array.setIfInBounds_eq_of_size_le (by rw[mu];exact Nat.le_of_not_lt hlt),Array.setIfInBounds_eq_of_size_le (by rw[mu];exact Nat.le_of_not_lt hlt)]
 unfold Oper.wp at *;rw[he];generalize (execOp b.eval o).run P w=r at *;cases r with
 |ok n w' =>
  cases n<;>simp only[Oper.upon]at h ⊢
  case value u=>exact a5 u w' h
  case skip=>exact a5 undef w' h
  case defer d =>
   obtain⟨v,e,_⟩:=h;have:=fj Act.defers e;exfalso
   cases hd:o.dst<;>rw[hd]at this<;>simp[Act.put]at this
  case enter f args =>
   refine Calls.mono h fun e a7 he=>?_;cases e with
   |returned u=>exact a5 u a7 he
   |panicked c=>exact hQ _ _ he
   |outgrown=>exact he
  case row row args=>exact Rows.mono h fun u a7 he=>a5 u a7 he
 |halt x w' =>
  cases x<;>simp only[Oper.upon]at h ⊢
  case panic u=>exact hQ _ _ h
def zF(md:Region.Mode)(ops:Array Oper)(m:Nat)(idx:List (Nat × Nat))(ag:Nat->List Nat)(listed:Array Bool):Bool :=
 GB ops&&decide (listed.size=ops.size)&&decide (m<=ops.size) &&
 idx.all (fun p=>decide (p.1<m)&&!listed.getD p.1 true&&(match ops[p.1]? with
  |some o=>o.guard.isNone&&o.dst==some p.2
  |none=>false)) &&
 decide (idx.map (·.1)).Nodup&&decide (idx.map (·.2)).Nodup &&
 (FF ops.size).all (fun t=>if t<m then listed.getD t false||idx.any (fun p=>p.1==t) else !listed.getD t true) &&
 idx.all (fun p=>idx.all fun q=>!mI ops p.1 q||Lo md ops p.1 q.1) &&
 idx.all (fun p=>(ag p.1).all fun k=>k==p.1||idx.any (fun q=>q.1==k&&mI ops p.1 q)) &&
 idx.all (fun p=>lM md ops (fun t=>decide (t<m)) listed p.1)&&BF md ops listed &&
 (FF ops.size).all (fun t=>match ops[t]? with
  |some o=>o.after.all fun e=>!Region.binds md e||decide (e.on<t)
  |none=>true) &&
 Is md ops (ops.size-m) m (Array.ofFn (n:=ops.size) fun t=>decide (t.1<m))
def kA(P:Program)(ops:Array Oper)(Q:Exit->Act->World->Prop)(F:Nat->(Nat->Value)->World->Prop)(C:(Nat->Bool)->World->Prop)(Ev:Nat->World->World->Prop)(a0:Act)(idx:List (Nat × Nat)):List (Nat × Nat)->Prop
 |[]=>True
 |p :: t=>(∀o,ops[p.1]?=some o->∀(vs:Nat->Value) (d:Nat->Bool) (w:World),d p.1=false->C d w->(∀q∈idx.filter (mI ops p.1),d q.1=true/\F q.1 vs w) ->
   o.wp P (over a0 (idx.filter (mI ops p.1)) vs) w (fun a' w'=>∃v,a'=(over a0 (idx.filter (mI ops p.1)) vs).put o.dst v/\C (fun j=>d j||j==p.1) w'/\Ev p.1 w w'/\F p.1 (fun k=>if k=p.1 then v else vs k) w') Q)/\kA P ops Q F C Ev a0 idx t
def kA.at :∀ {l:List (Nat × Nat)},kA P ops Q F C Ev a0 idx l->∀p∈l,∀o,ops[p.1]?=some o->∀(vs:Nat->Value) (d:Nat->Bool) (w:World),d p.1=false->C d w->(∀q∈idx.filter (mI ops p.1),d q.1=true/\F q.1 vs w) ->
   o.wp P (over a0 (idx.filter (mI ops p.1)) vs) w (fun a' w'=>∃v,a'=(over a0 (idx.filter (mI ops p.1)) vs).put o.dst v/\C (fun j=>d j||j==p.1) w'/\Ev p.1 w w'/\F p.1 (fun k=>if k=p.1 then v else vs k) w') Q
 |[],_,p,hp=>by cases hp
 |q :: t,h,p,hp=>by
  rcases F1.1 hp with rfl|h1
  ·exact h.1
  exact kA.at h.2 p h1
def kA.cons{t deps:List (Nat × Nat)}{o:Oper}(ho:ops[p.1]?=some o)(QH:o.dst=some p.2)(hd:idx.filter (mI ops p.1)=deps)
  (h:∀(vs:Nat->Value) (d:Nat->Bool) (w:World),d p.1=false->C d w->(∀q∈deps,d q.1=true/\F q.1 vs w)->∀K:Act->World->Prop,Hid (∀v w',C (fun j=>d j||j==p.1) w'->Ev p.1 w w'->F p.1 (fun k=>if k=p.1 then v else vs k) w'->∀a',a'=(over a0 deps vs).put (some p.2) v->K a' w')->o.wp P (over a0 deps vs) w K Q) (ht:kA P ops Q F C Ev a0 idx t):kA P ops Q F C Ev a0 idx (p :: t) :=
 ⟨fun o' a5=>by
  rw[ho]at a5;injection a5 with a5;subst a5;rw[hd];exact fun vs d w h0 hC hF=>h vs d w h0 hC hF _ (aa fun v w' h1 h2 h3 a' e=>⟨v,by rw[QH];exact e,h1,h2,h3⟩),ht⟩
structure EH(md:Region.Mode)(ops:Array Oper)(m:Nat)(idx:List (Nat × Nat))(ag:Nat->List Nat):Prop where
 sel:∀(j:Nat) (o:Oper) cs b,ops[j]?=some o->o.op≠.select cs b
 le:m<=ops.size
 op:∀p∈idx,p.1<m/\∃o,ops[p.1]?=some o/\o.guard=none/\o.dst=some p.2
 n1:(idx.map (·.1)).Nodup
 n2:(idx.map (·.2)).Nodup
 dep:∀p∈idx,∀q∈idx,mI ops p.1 q=true->Lo md ops p.1 q.1=true
 agr:∀p∈idx,∀k∈ag p.1,k=p.1\/∃q∈idx,q.1=k/\mI ops p.1 q=true
 late:∀p∈idx,∀t,m<=t->t<ops.size->ky md ops ops.size t p.1=true
 down:∀(t:Nat) (o:Oper),ops[t]?=some o->∀e∈o.after,DQ md e=true->e.on<t
 seq:Is md ops (ops.size-m) m (Array.ofFn (n:=ops.size) fun t=>decide (t.1<m))=true
structure EL(md:Region.Mode)(ops:Array Oper)(m:Nat)(idx:List (Nat × Nat))(listed:Array Bool):Prop where
 size:listed.size=ops.size
 head:∀t,t<m->listed.getD t false=true\/∃p∈idx,p.1=t
 tail:∀t,m<=t->t<ops.size->listed.getD t true=false
 clo:Clo md ops listed
def xQ(h:zF md ops m idx ag listed=true):EH md ops m idx ag/\EL md ops m idx listed/\∀p∈idx,listed.getD p.1 true=false:=by
 simp only[zF,eh,fk]at h;obtain⟨⟨⟨⟨⟨⟨⟨⟨⟨⟨⟨⟨h1,h2⟩,h3⟩,h4⟩,h5⟩,h6⟩,h7⟩,h8⟩,a5⟩,h9⟩,a7⟩,a8⟩,a9⟩:=h;have k4:=fun p hp=>An.1 h4 p hp;have k7:=fun t ht=>An.1 h7 t (EV.2 ht)
 refine⟨⟨XS h1,h3,fun p hp=>?_,h5,h6,fun p hp q hq hd=>?_,fun p hp k hk=>?_,fun p hp t ht hs=>Gs (An.1 h9 p hp) TdN hs (by
  have:=k7 t hs;simp only[show ¬t<m by omega,fY,tz]at this;exact this),fun t o ho e he hb=>?_,a9⟩,⟨h2,fun t ht=>?_,fun t ht hs=>?_,oK a7⟩,fun p hp=>?_⟩
 ·have:=k4 p hp;simp only[eh,fk]at this;obtain⟨⟨q1,_⟩,q3⟩:=this;refine⟨q1,?_⟩;cases ho:ops[p.1]? with
  |none=>simp[ho]at q3
  |some o =>
   simp[ho]at q3;exact⟨o,rfl,q3.1,q3.2⟩
 ·have:=An.1 (An.1 h8 p hp) q hq;simpa[hd]using this
 ·have:=An.1 (An.1 a5 p hp) k hk;simp only[tG,beq_iff_eq,nh,eh]at this;rcases this with q|⟨q,hq,e,hd⟩
  ·exact .inl q
  exact .inr ⟨q,hq,e,hd⟩
 ·have:=An.1 a8 t (EV.2 (DS.1 ho).1);simp only[ho]at this;have:=Array.all_eq_true_iff_forall_mem.1 this e he;simpa[hb]using this
 ·have:=k7 t Tc1;simp only[ht,ej,tG,nh,beq_iff_eq]at this;exact this
 ·have:=k7 t hs;simp only[show ¬t<m by omega,fY,tz]at this;exact this
 have:=k4 p hp;simp only[eh,fk,tz]at this;exact this.1.2
def u7(hw:Lo md ops t i=true)(ht:t∈BE md ops listed):listed.getD i false=true:=by
 obtain⟨ot,a5,e,he,hb,a7⟩:=A5 hw;obtain⟨_,o,ho,hall⟩:=mem_ready.1 ht;rw[a5]at ho;injection ho with ho;subst ho;have h1:=hall e he hb;rw[a7]at h1;exact h1
def pW(h:listed.getD i false=true):listed.getD i true=true:=by
 rcases mm i listed.size with h'|h'
 ·simp[h']at h ⊢;exact h
 simp[xp h']at h
def zX(hi:i<listed.size)(h:listed.getD i true=true):listed.getD i false=true:=by
 simp[hi]at h ⊢;exact h
def yA(hd:∀(t:Nat) (o:Oper),ops[t]?=some o->∀e∈o.after,DQ md e=true->e.on<t)(hs:listed.size=ops.size):∀t,t<ops.size->listed.getD t true=false->∃j,j∈BE md ops listed:=by
 intro t;induction t using Nat.strongRecOn with
 |ind t ih =>
  intro ht hu;have ho:ops[t]?=some ops[t]:=aa0 ht;by_cases hall:∀e∈ops[t].after,DQ md e=true->listed.getD e.on false=true
  ·exact⟨t,mem_ready.2 ⟨hu,_,ho,hall⟩⟩
  simp only[Classical.not_forall]at hall;obtain⟨e,he,hb,hn⟩:=hall;have hlt:=hd t _ ho e he hb;refine ih e.on hlt Tc1 ?_;cases h:listed.getD e.on true with
  |false=>rfl
  |true=>exact absurd (zX Tc1 h) hn
def Bi(hp:p∈idx)(hn:(idx.map (·.1)).Nodup)(hu:listed.getD p.1 true=false)(hs:p.1<listed.size) :
  (idx.filter fun q=>!listed.getD q.1 true).length=(idx.filter fun q=>!(listed.setIfInBounds p.1 true).getD q.1 true).length+1:=by
 obtain⟨l1,l2,rfl⟩:=List.append_of_mem hp;rw[gl,iu,List.nodup_append]at hn;obtain⟨_,h2,h3⟩:=hn;rw[List.nodup_cons]at h2;have e1:l1.filter (fun q=>!(listed.setIfInBounds p.1 true).getD q.1 true)=l1.filter (fun q=>!listed.getD q.1 true):=A0 fun q hq=>by
  rw[ly true (fun e=>h3 q.1 (As.2 ⟨q,hq,rfl⟩) p.1 (cG ..) e.symm)]
 have e2:l2.filter (fun q=>!(listed.setIfInBounds p.1 true).getD q.1 true)=l2.filter (fun q=>!listed.getD q.1 true):=A0 fun q hq=>by
  rw[ly true (fun e=>h2.1 (As.2 ⟨q,hq,e.symm⟩))]
 have hp1:(listed.setIfInBounds p.1 true).getD p.1 true=true:=by simp[hs]
 rw[List.filter_append,List.filter_append,E1 (by simp only[hu];rfl),ae7 (by simp only[hp1];simp),e1,e2];simp only[cD,cS];omega
theorem oF{tl:List Oper}(hF:EH md ops m idx ag)(UZ:∀d w,C d w->S w)(hst:∀p∈idx,∀q∈idx,q.1≠p.1->∀(vs us:Nat->Value) w w',(∀k∈ag p.1,us k=vs k)->F p.1 vs w->Ev q.1 w w'->F p.1 us w')
  (hQ:∀c (t t':Array Value) w,Q (.panic c) { a0 with tmps:=t } w->Q (.panic c) { a0 with tmps:=t' } w) (gR:kA P ops Q F C Ev a0 idx idx) (nt:∀j,tl[j]?=ops[m+j]?) (htn:tl.length=ops.size-m)
  (OL:∀(vs:Nat->Value) (d:Nat->Bool) (w:World),C d w->(∀p∈idx,d p.1=true/\F p.1 vs w)->wpList P ops Q tl (over a0 idx vs) w) :
  ∀(r:Nat) (L:Array Bool) (vs:Nat->Value) (w:World),EL md ops m idx L->(idx.filter fun p=>!L.getD p.1 true).length=r->C (fun j=>L.getD j true) w->(∀p∈idx,L.getD p.1 true=true->F p.1 vs w) ->
   bG P md ops Q S (needs m ws) (r+tl.length) L (over a0 (idx.filter fun p=>L.getD p.1 true) vs) w:=by
 intro r;induction r with
 |zero =>
  intro L vs w hL hr hC hf;have hall:∀p∈idx,L.getD p.1 true=true:=fun p hp=>by
   have h0:=Lw.1 (fX hr) p hp;simpa only[Bool.not_eq_true,Bool.not_eq_false']using h0
  have ZH:L=Array.ofFn (n:=ops.size) fun t=>decide (t.1<m):=by
   apply Array.ext
   ·rw[hL.size,Array.size_ofFn]
   intro t h1 h2;rw[Array.getElem_ofFn];have hs:=hL.size;by_cases ht:t<m
   ·have:L.getD t true=true:=by
     rcases hL.head t ht with q|⟨p,hp,rfl⟩
     ·exact pW q
     exact hall p hp
    simpa[h1,ht]using this
   have:=hL.tail t Tc1 Tc1;simpa[h1,ht]using this
  have e:idx.filter (fun p=>L.getD p.1 true)=idx:=List.filter_eq_self.2 hall;rw[e,eJ];exact gM tl m L _ w qJ nt (by rw[htn,ZH];exact hF.seq) (OL vs _ w hC fun p hp=>⟨hall p hp,hf p hp (hall p hp)⟩)
 |succ r ih =>
  intro L vs w hL hr hC hf;have ae:∃p∈idx,L.getD p.1 true=false:=by
   cases hfl:idx.filter (fun p=>!L.getD p.1 true)with
   |nil=>rw[hfl]at hr;simp at hr
   |cons p t =>
    have hp:p∈idx.filter (fun p=>!L.getD p.1 true):=by rw[hfl];exact cG ..
    have a8:=DP.1 hp;exact⟨p,a8.1,by simpa only[tz]using a8.2⟩
  obtain⟨p0,a9,aa⟩:=ae;rw[show r+1+tl.length=(r+tl.length)+1 by omega];refine⟨fun h0=>?_,fun i hi=>?_⟩
  ·obtain⟨j,hj⟩:=yA hF.down hL.size p0.1 (cC (hF.op p0 a9).1 hF.le) aa;rw[h0]at hj;cases hj
  have ZI:i<m:=(mm i m).elim id fun h=>absurd hi (nW hL.clo (hF.late p0 a9 i h (mV hi)) aa)
  have OM:=(mem_ready.1 hi).1;obtain⟨p,hp,rfl⟩:∃p∈idx,p.1=i:=(hL.head i ZI).resolve_left fun q=>by rw[pW q]at OM;cases OM
  obtain⟨_,o,ho,hg,U0⟩:=hF.op p hp;have OO:∀q∈idx,mI ops p.1 q=true->L.getD q.1 true=true:=fun q hq hd=>pW (u7 (hF.dep p hp q hq hd) hi);have H:=gR.at p hp o ho vs _ w OM hC fun q hq=>⟨OO q (DP.1 hq).1 (DP.1 hq).2,hf q (DP.1 hq).1 (OO q (DP.1 hq).1 (DP.1 hq).2)⟩;have nd:∀f:Nat × Nat->Bool,((idx.filter f).map (·.2)).Nodup:=fun f=>(List.Sublist.map _ List.filter_sublist).nodup hF.n2
  have he:execOp (over a0 (idx.filter fun p=>L.getD p.1 true) vs).eval o=execOp (over a0 (idx.filter (mI ops p.1)) vs).eval o:=execOp_congr o (fun cs b=>hF.sel p.1 o cs b ho) fun x hx=>by
   cases x with
   |tmp t =>
    by_cases hq:∃q∈idx,q.2=t
    ·obtain⟨q,hq,rfl⟩:=hq;have hd:mI ops p.1 q=true:=by
      simp only[mI,ho,List.contains_iff_mem];exact ju _ (List.mem_filterMap.2 ⟨.tmp q.2,TdZ,rfl⟩)
     rw[zN _ vs q _ (nd _) (DP.2 ⟨hq,OO q hq hd⟩),zN _ vs q _ (nd _) (DP.2 ⟨hq,hd⟩)]
    rw[mE _ vs t _ fun q a7 e=>hq ⟨q,(DP.1 a7).1,e⟩,mE _ vs t _ fun q a7 e=>hq ⟨q,(DP.1 a7).1,e⟩]
   |_=>rfl
  have hw:By o (yielded ops (over a0 (idx.filter fun p=>L.getD p.1 true) vs).tmps)=true:=by simp[By,hg]
  unfold wpOp;simp only[ho,hw,ej];refine .inl ?_;have H2:=Ck (a:=over a0 (idx.filter fun p=>L.getD p.1 true) vs) he (by rw[uo,uo]) (fun c w h=>by rw[xm]at h ⊢;exact hQ _ _ _ _ h) H;refine Oper.wp_mono (fun a' w'=>?_) H2;rintro⟨v,rfl,ab,ZJ,ZK⟩;have hs:p.1<L.size:=by rw[hL.size];exact mV hi
  have a5:∀j:Nat,(L.setIfInBounds p.1 true).getD j true=(L.getD j true||j==p.1):=fun j=>by
   by_cases e:j=p.1
   ·rw[e];simp[hs]
   rw[ly true (Ne.symm e)];simp[e]
  have key:∀q:Nat × Nat,(L.setIfInBounds p.1 true).getD q.1 true=(L.getD q.1 true||q.1==p.1):=fun q=>a5 q.1;refine⟨fun _=>UZ _ _ ab,?_⟩
  have e2:(over a0 (idx.filter fun p=>L.getD p.1 true) vs).put o.dst v=over a0 (idx.filter fun q=>(L.setIfInBounds p.1 true).getD q.1 true) (fun k=>if k=p.1 then v else vs k):=by
   rw[U0,A0 fun q _=>key q];exact(xc vs p v (fun k=>L.getD k true) OM idx a0 hF.n2 hF.n1 hp).symm
  rw[e2];refine ih _ _ w' ⟨by simp[hL.size],fun t ht=>?_,fun t ht OP=>?_,hL.clo.set hi⟩ ?_ (by rw[funext a5];exact ab) (fun q hq X1=>?_)
  ·rcases hL.head t ht with q|q
   ·exact .inl (getD_set_true q)
   exact .inr q
  ·rw[ly true Tc1];exact hL.tail t ht OP
  ·have:=Bi hp hF.n1 OM hs;omega
  by_cases e:q.1=p.1
  ·rw[e];exact ZK
  have QI:L.getD q.1 true=true:=by
   rw[key q]at X1;simpa[e]using X1
  refine hst q hq p hp (fun e'=>e e'.symm) vs _ w w' (fun k hk=>?_) (hf q hq QI) ZJ;refine bh fun ek=>?_;rcases hF.agr q hq k hk with q1|⟨r,hr,er,af⟩
  ·exact e (q1.symm.trans ek)
  obtain⟨oq,ZL,e2,ah,hb2,U1⟩:=A5 (hF.dep q hq r hr af);have ai:q.1<L.size:=by rw[hL.size];exact cC (hF.op q hq).1 hF.le
  have:=hL.clo q.1 oq ZL (zX ai QI) e2 ah hb2;rw[U1,er,ek]at this;rw[pW this]at OM;cases OM
def fE(ag:Nat->List Nat)(F:Nat->(Nat->Value)->World->Prop)(C:(Nat->Bool)->World->Prop)(Ev:Nat->World->World->Prop){w0:World}
  (hB:zF md l.toArray m idx ag listed=true) (QJ:fuel=idx.length+(l.drop m).length) (UZ:∀d w,C d w->S w) (hst:∀p∈idx,∀q∈idx,q.1≠p.1->∀(vs us:Nat->Value) w w',(∀k∈ag p.1,us k=vs k)->F p.1 vs w->Ev q.1 w w'->F p.1 us w')
  (hQ:∀c (t t':Array Value) w,Q (.panic c) { a0 with tmps:=t } w->Q (.panic c) { a0 with tmps:=t' } w) (hC:C (fun j=>listed.getD j true) w0) (gR:kA P l.toArray Q F C Ev a0 idx idx)
  (OL:∀(vs:Nat->Value) (d:Nat->Bool) (w:World),C d w->(∀p∈idx,d p.1=true/\F p.1 vs w)->wpList P l.toArray Q (l.drop m) (over a0 idx vs) w) :
  bG P md l.toArray Q S (needs m ws) fuel listed a0 w0:=by
 obtain⟨h1,h2,h3⟩:=xQ hB;have hr:(idx.filter fun p=>!listed.getD p.1 true).length=idx.length:=by
  rw[List.filter_eq_self.2 fun p hp=>by rw[h3 p hp];rfl]
 have:=oF (ws:=ws) (S:=S) h1 UZ hst hQ gR (fun j=>by simp[pk]) Tc2 OL idx.length listed (fun _=>undef) w0 h2 hr hC (fun p hp h=>by rw[h3 p hp]at h;cases h);rw[QJ];have e:idx.filter (fun p=>listed.getD p.1 true)=[]:=Lw.2 fun p hp=>by rw[h3 p hp];simp
 rw[e]at this;exact this
end
def aS:(∀(a:Act) (v:Value),a.put none v=a)/\(∀(a:Act) (t:Nat) (v:Value),a.put (some t) v=⟨a.tmps.setIfInBounds t v,a.defers⟩)/\(∀(l:List Value) (i:Nat) (x:Value),l.toArray.setIfInBounds i x=(l.set i x).toArray)/\(∀(a b:Value) (l:List Value),(a::l).set 0 b=b::l)/\(∀(a b:Value) (l:List Value) (i:Nat),(a::l).set (i+1) b=a::l.set i b):=⟨fun _ _=>rfl,fun _ _ _=>rfl,fun _ _ _=>by simp,fun _ _ _=>rfl,fun _ _ _ _=>rfl⟩
def ak:(∀(a:Act) (t:Nat) (v:Value),a.put (some t) v=⟨a.tmps.setIfInBounds t v,a.defers⟩)/\(∀(l:List Value) (i:Nat) (x:Value),l.toArray.setIfInBounds i x=(l.set i x).toArray)/\(∀(a b:Value) (l:List Value),(a::l).set 0 b=b::l)/\(∀(a b:Value) (l:List Value) (i:Nat),(a::l).set (i+1) b=a::l.set i b):=⟨fun _ _ _=>rfl,fun _ _ _=>by simp,fun _ _ _=>rfl,fun _ _ _ _=>rfl⟩
section
variable {P:Program} {ops:Array Oper} {Q:Exit->Act->World->Prop} {md:Region.Mode} {S:World->Prop} {N:Nat->Bool} {d:Tmp} {oi:Oper} {v:Value} {fuel:Nat} {listed:Array Bool} {a:Act} {w:World}
variable {a':Act}
def fz  (i:Nat) (h:bG P md ops Q S N fuel (listed.setIfInBounds i true) a' w) (hi:ops[i]?=some oi:=by rfl) (hd:oi.dst=some d:=by rfl) (hb:(GB ops&&IS md ops listed i&&(BE md ops listed).contains i&&!N i)=true:=by kernel_rfl) (hg:By oi (yielded ops a.tmps)=true:=by rfl) (hy:∀w,(fun _=>True) w->(execOp a.eval oi).run P w=.ok (.value v) w:=by(intro w _;go_simp;(try(with_reducible rfl)))) (hQ:∀c a w,Q (.panic c) (a.put (some d) v) w->Q (.panic c) a w:=by exact fun _ _ _ h=>h) (ha:a.put (some d) v=a':=by(try simp only[ak]);(try exact rfl)):bG P md ops Q S N (fuel+1) listed a w:=nz hi hd hb hQ (Or.inl ⟨hg,hy⟩) TdM
def gC  (hQ:∀c (a:Act) (d:Tmp) (v:Value) w,Q (.panic c) (a.put (some d) v) w->Q (.panic c) a w) (i:Nat) (h:bG P md ops Q S N fuel (listed.setIfInBounds i true) a' w) (hi:ops[i]?=some oi:=by rfl) (hd:oi.dst=some d:=by rfl) (hb:(GB ops&&IS md ops listed i&&(BE md ops listed).contains i&&!N i)=true:=by kernel_rfl) (hg:By oi (yielded ops a.tmps)=true:=by rfl) (hy:∀w,(fun _=>True) w->(execOp a.eval oi).run P w=.ok (.value v) w:=by(intro w _;go_simp;(try(with_reducible rfl)))) (ha:a.put (some d) v=a':=by(try simp only[ak]);(try exact rfl)):bG P md ops Q S N (fuel+1) listed a w:=nz hi hd hb (fun _ _ _ h=>hQ _ _ _ _ _ h) (Or.inl ⟨hg,hy⟩) TdM
def fS  (i:Nat) (hS:S w) (h:bG P md ops Q S N fuel (listed.setIfInBounds i true) a' w) (hi:ops[i]?=some oi:=by rfl) (hd:oi.dst=some d:=by rfl) (hb:(GB ops&&IS md ops listed i&&(BE md ops listed).contains i&&lM md ops N listed i&&BF md ops listed)=true:=by kernel_rfl) (hg:By oi (yielded ops a.tmps)=true:=by rfl) (hy:∀w,S w->(execOp a.eval oi).run P w=.ok (.value v) w:=by(intro w ZS;(try dsimp only at ZS);go_simp;(try(with_reducible rfl)))) (hQ:∀c a w,Q (.panic c) (a.put (some d) v) w->Q (.panic c) a w:=by exact fun _ _ _ h=>h) (ha:a.put (some d) v=a':=by(try simp only[ak]);(try exact rfl)):bG P md ops Q S N (fuel+1) listed a w:=o7 hi hd hb hQ (Or.inl ⟨hg,hy⟩) hS TdM
def cH  (hQ:∀c (a:Act) (d:Tmp) (v:Value) w,Q (.panic c) (a.put (some d) v) w->Q (.panic c) a w) (i:Nat) (hS:S w) (h:bG P md ops Q S N fuel (listed.setIfInBounds i true) a' w) (hi:ops[i]?=some oi:=by rfl) (hd:oi.dst=some d:=by rfl) (hb:(GB ops&&IS md ops listed i&&(BE md ops listed).contains i&&lM md ops N listed i&&BF md ops listed)=true:=by kernel_rfl) (hg:By oi (yielded ops a.tmps)=true:=by rfl) (hy:∀w,S w->(execOp a.eval oi).run P w=.ok (.value v) w:=by(intro w ZS;(try dsimp only at ZS);go_simp;(try(with_reducible rfl)))) (ha:a.put (some d) v=a':=by(try simp only[ak]);(try exact rfl)):bG P md ops Q S N (fuel+1) listed a w:=o7 hi hd hb (fun _ _ _ h=>hQ _ _ _ _ _ h) (Or.inl ⟨hg,hy⟩) hS TdM
end
variable {N L bs bb:Nat}{a b next':List Int}{w w' wr w2:World}{Gb:List az}{p:List (ByteArray × Int × Int)}{X Y:Nat->Prop}{nv vv rK rN:Value}{g g':af}{t:TypeId}{cs:List Value}
def lR{P:Program} {ops:Array Oper} {Q:Exit->Act->World->Prop} {md:Region.Mode} {S:World->Prop} {N:Nat->Bool} {o:Oper} {fuel:Nat} {listed:Array Bool} {a:Act}  (i:Nat) (h:∀K:Act->World->Prop,Go.RowKit.Hid (∀a' w',S w'->bG P md ops Q S N fuel (listed.setIfInBounds i true) a' w'->K a' w')->o.wp P a w K Q) (hi:ops[i]?=some o:=by rfl) (hw:o.guard=none:=by rfl) (hr:BE md ops listed=[i]:=by kernel_rfl):bG P md ops Q S N (fuel+1) listed a w:=au hi hw hr h
def es:ByteArray:=⟨#[]⟩
def dE(n:Int)(on:ByteArray)(s:Int):aB:=⟨0,n,1,[⟨false,on,s⟩],0,[],es,es,0,0,0⟩
def eD(name:ByteArray)(id:Int)(hidden:Bool)(n:Int)(on:ByteArray)(s:Int):ay:=⟨name,id,hidden,false,[],[dE n on s]⟩
inductive fZ (Gb:List az):List Int->List (ByteArray × Int × Int)->List Int->Prop
 |nil (next:List Int):fZ Gb next [] next
 |snoc {next next1:List Int} {ps:List (ByteArray × Int × Int)} {d:Nat} {D:az} {m s n:Int} (h:fZ Gb next ps next1) (hd:Gb[d]?=some D) (hm:next1[d]?=some m) (h1:m<=s) (h2:s+n<=D.Gc) (h3:1<=n):fZ Gb next (ps++[(D.name,s,n)]) (next1.set d (s+n))
def fZ.trans{c:List Int}{q:List (ByteArray × Int × Int)}(h:fZ Gb a p b)(k:fZ Gb b q c):fZ Gb a (p++q) c:=by
 induction k with
 |nil=>simpa using h
 |snoc k hd hm h1 h2 h3 ih =>
  rw[<- cV];exact .snoc ih hd hm h1 h2 h3
structure DOk(Gb:List az)(next:List Int):Prop where
 len:next.length=Gb.length
 pos:0<Gb.length
 le:Gb.length<=8
 ext:∀D∈Gb,0<=D.Gc/\D.Gc<=1000
 nx:∀(d:Nat) (m:Int),next[d]?=some m->0<=m/\m<=1000
def fZ.ok(h:fZ Gb a p b)(k:DOk Gb a):DOk Gb b:=by
 induction h with
 |nil=>exact k
 |@snoc next1 ps d D m s n h hd hm h1 h2 h3 ih =>
  refine⟨by simp[ih.len],ih.pos,ih.le,ih.ext,fun e x hx=>?_⟩;rw[List.getElem?_set]at hx;split at hx
  ·split at hx
   ·injection hx with hx;have:=ih.nx d m hm;have:=ih.ext D (ct hd);omega
   cases hx
  exact ih.nx e x hx
structure BOk(g:af)(next:List Int):Prop where
 dk:DOk g.Gb next
 n0:0<=g.next
 n1:g.next<=100000
 vl:g.F9.length<=100
def Fz(w:World)(vv:Value)(n:Nat):Prop:=∃vb vc sb,vv=.slice (some ⟨vb,0,none⟩) (n+1) vc/\w.cell? ⟨vb,n*6+5,none⟩=some (.slice (some ⟨sb,0,none⟩) 1 1)
def F3(X:Nat->Prop)(bs bb:Nat)(nv vv:Value)(g:af)(next:List Int)(name:ByteArray)(hidden:Bool)(n:Int)(w:World)(e:Ending)(w':World):Prop :=
 (e=.returned (.bool false)/\aH X bs bb nv vv w w' nv vv { g with next:=g.next+1 } next) \/
 ∃(on:ByteArray) (s:Int) (next':List Int) (pA:Value),fZ g.Gb next [(on,s,n)] next'/\e=.returned (.bool true) /\
  aH X bs bb nv vv w w' nv pA { g with next:=g.next+1,F9:=g.F9++[eD name (oX g.id (g.next+1)) hidden n on s] } next'/\Fz w' pA g.F9.length
def fD(X:Nat->Prop)(L:Nat):Nat->Prop:=fun k=>X k\/k=L
def CU{o:Obj}(hL:L=w.1.size):∀k,fD X L k->X k\/(w.1.size<=k/\k<(w.alloc o).1.size):=by
 rintro k (h|rfl)
 ·exact .inl h
 exact .inr ⟨Tc1,Tc6⟩
def ae(w:World)(o:Obj):Below w.1.size w (w.alloc o):=(bj _ _).alloc (bk _) _
def qM{b:Nat}(hb:b<w.1.size)(o p q:Obj):(((w.alloc o).alloc p).alloc q).1[b]?=w.1[b]?:=by
 rw[cj _ _ _ Tc6,cj _ _ _ Tc6,cj _ _ _ hb]
def eW.c7{next:List Int}(h:eW X w bs bb nv vv g next):∃p ir,w.cell? (Tac bb 7)=some (.slice p g.Gb.length ir)/\g.Gb.length<=ir/\ir<=9223372036854775807:=by
 obtain⟨tv,dv,hv,e,_,h2,_⟩:=h.blk;obtain⟨p,ir,ed,k1,k2,k3⟩:=h2;simp only[rp,and_true]at ed;subst ed;exact⟨p,ir,cr e _ _ rfl,k1,k2⟩
def TcD{p:Prop}(h:p:=by
 obtain⟨tv,dv,hv,e,_,h2,_⟩:=h.blk;simp[World.cell?,e]):p:=h
def eW.c8{next:List Int}(h:eW X w bs bb nv vv g next):w.cell? (Tac bb 8)=some vv:=by
 exact TcD
def eW.bfr{next:List Int}(h:eW X w bs bb nv vv g next)(i:Nat):w.frozen? (bb,i)=false:=by
 obtain⟨tv,dv,hv,e,_,h2,_⟩:=h.blk;simp[BT,e]
def TaK(x0:ByteArray)(x1:Int)(x2:Bool)(x3:Option Addr):Tab #[.string x0,.int .u64 x1,.bool x2,.bool false,.slice none 0 0,.slice x3 1 1]:=⟨⟩
def Tc7{p:Prop}(h:p:=by rfl):p:=h
def Tdc{p:Prop}(h:p:=by simp[Value.oneCell']):p:=h
def qw(X:Nat->Prop)(bs bb:Nat)(nv vv:Value)(g:af)(next:List Int)(w:World)(h:eW X w bs bb nv vv g next)(hk:BOk g next)(name:ByteArray)(hidden:Bool)(d0:Nat)(n:Int)(ak:d0<=100)(ag:1<=n)(hn1:n<=1000000) :
  Calls prog 19 #[.pointer (some bb),.string name,.bool hidden,.int .i64 d0,.int .i64 n] w (F3 X bs bb nv vv g next name hidden n w):=by
 have k0:=hk.n0;have k1:=hk.n1;have k2:=hk.dk.pos;have k3:=hk.dk.le;have k4:=hk.vl;go_enter func19,ntmps19
 go_wp2_with fail;refine(vS X bs bb nv vv g next _ h Tc1 Tc1).mono ?_;rintro e w1 ⟨rfl,P1⟩;generalize hid:oX g.id (g.next+1)=mz;replace hid:=aa hid;go_wp2;have P2:=P1.fresh (Y:=fD X w1.1.size) (ae w1 (.cells #[name,.int .u64 mz,hidden,false,.slice none 0 0,.slice none 0 0] 68)) (CU rfl);have HL:=aa (b9 w1 (.cells #[name,.int .u64 mz,hidden,false,.slice none 0 0,.slice none 0 0] 68));have TP:=P1.mod.size;generalize hL:w1.1.size=L at *;replace hL:=aa hL;go_loopw[12] (fun i wr=>∃k:Nat,k<=g.Gb.length/\i=.int .i64 k/\aH (fD X L) bs bb nv vv w wr nv vv { g with next:=g.next+1 } next/\wr.1[L]?=some (.cells #[name,.int .u64 mz,hidden,false,.slice none 0 0,.slice none 0 0] 68 (0,0))) (fun i _=>g.Gb.length-(intOf i).toNat)
 exact⟨0,Tc1,rfl,P2,HL.o⟩;obtain⟨k,Vk,rfl,P,a7⟩:=hrel;replace a7:=aa a7;obtain⟨dp,ir,c7,l1,l2⟩:=P.bld.c7;simp only at c7 l1;by_cases hlt:k<g.Gb.length
 ·have oY:((d0:Int)+(k:Int))%(g.Gb.length:Int)=(((d0+k)%g.Gb.length:Nat):Int):=by simp
  have CD:(d0+k)%g.Gb.length<g.Gb.length:=Nat.mod_lt _ k2;generalize hd:(d0+k)%g.Gb.length=d at *;replace hd:=aa hd;obtain⟨D,hD⟩:=aj g.Gb d CD;obtain⟨m,hm⟩:=aj next d (by rw[hk.dk.len];exact CD);have QK:=hk.dk.nx d m hm;replace hD:=aa hD;replace hm:=aa hm;go_wp2_with fail;refine(qR (fD X L) bs bb nv vv _ next _ P.bld d D m n hD.o hm.o QK.1 Tc1 Tc1 hn1).mono ?_;rintro e w2 (⟨rfl,Q,_⟩|⟨s,hs1,hs2,rfl,Q,_⟩)
  ·go_wp2;go_roundw;exact⟨k+1,Tc1,Tc5,(P.trans Q).after (ae _ _),(cj _ _ _ (by have:=Q.mod.size;have:=aq a7.o;omega)).trans ((Q.loc P.bld (.inr rfl)).trans a7.o)⟩;simp[intOf];omega
  have R2:=P.trans Q;have TQ:=aa ((Q.loc P.bld (.inr rfl)).trans a7.o);have a9:L<w2.1.size:=aq TQ.o;have ZO:∀o p q,(((w2.alloc o).alloc p).alloc q).cell? (Tac L 5)=some (.slice none 0 0):=fun o p q=>by simp[AN,qM a9,TQ.o]
  have ZP:∀o p q,(((w2.alloc o).alloc p).alloc q).frozen? (Tac L 5)=false:=fun o p q=>by simp[BT,qM a9,TQ.o]
  go_wp2;clear ZO ZP;generalize hW:AF (AI (AI (AI w2 _) _) _) _ _=W;have R4:aH (fD X L) bs bb nv vv w W nv vv { g with next:=g.next+1 } (next.set d (s+n)):=by
   rw[<- hW];exact(((R2.after (ae _ _)).after (ae _ _)).after (ae _ _)).put L 5 _ (.inr rfl) TP
  have U2:W.1[L]?=some (.cells (TaK name mz hidden (some ⟨w2.1.size+1+1,0,none⟩)) 68 (0,0)):=by
   rw[<- hW];exact block_setCell (cs:=#[_,_,_,_,_,_]) (i:=5) _ ((qM a9 _ _ _).trans TQ.o)
  have DA:W.1[w2.1.size+1]?=some (.cells [.bool false,.string D.name,.int .i64 s].toArray 53 (0,0)):=by
   rw[<- hW,bw _ _ _ _ Tc6,cj _ _ _ Tc2];have:=b9 (w2.alloc (.cells (Tau D.name s) 53)) (.cells (Tau D.name s) 53);rw[cW]at this;exact this
  have X2:W.1[w2.1.size+1+1]?=some (.cells [.int .i64 0,.int .i64 n,.int .i64 1,.slice (some (Tac (w2.1.size+1) 0)) 1 1,.int .i64 0,.slice none 0 0,.string es,.string es,.int .i64 0,.int .i64 0,.int .i64 0].toArray 114 (0,0)):=by
   rw[<- hW,bw _ _ _ _ Tc6];have:=b9 ((w2.alloc (.cells (Tau D.name s) 53)).alloc (.cells (Tau D.name s) 53)) (.cells #[.int .i64 0,n,.int .i64 1,.slice (some (Tac (w2.1.size+1) 0)) 1 1,.int .i64 0,.slice none 0 0,.string es,.string es,.int .i64 0,.int .i64 0,.int .i64 0] 114);rw[cW,cW]at this;exact this
  have RV:aN (okB (fD X L) bb nv vv) W [.string name,.int .u64 mz,.bool hidden,.bool false,.slice none 0 0,.slice (some (Tac (w2.1.size+1+1) 0)) 1 1] (eD name mz hidden n D.name s) :=
   ⟨_,_,rfl,ck.nil,ck.one X2 (R2.bld.okNew Tc1) rfl ⟨_,_,rfl,ck.one DA (R2.bld.okNew Tc1) rfl rfl,ck.nil⟩⟩
  clear hW DA X2;obtain⟨i0,hi,du,On,RC⟩:=gg zT;replace hi:=aa hi;replace du:=aa du;replace On:=aa On;replace RC:=aa RC;have cX:=R4.bld.Gj;have U3:bb<L:=by have:=h.Gj;omega
  have q8:W.cell? (Tac bb 8)=some vv:=R4.bld.c8;have qL:=cr U2;have ah:bb≠L:=by omega
  have ai:L≠bb:=by omega
  have qf:W.frozen? (Tac bb 8)=false:=R4.bld.bfr 8;obtain⟨q0,q1,q2,q3,q4,q5⟩:=sv6 qL;replace qL:=aa qL;replace U2:=aa U2;have HK:=aa (fun(W1 W2:World) (gb cap:Nat) hb hp=>R4.bld.pushKeeps (N:=W.1.size) (p:=eD name mz hidden n D.name s) (u:=[.string name,.int .u64 mz,.bool hidden,.bool false,.slice none 0 0,.slice (some (Tac (w2.1.size+1+1) 0)) 1 1]) (w1:=W1) (w2:=W2) (gb:=gb) (cap:=cap) hb hp);have QL:=aa (R4.bld.ready RV);have ZT:=aa (fun(W1 W2:World) (gb cap:Nat) hb hp=>R4.push (N:=W.1.size) (p:=eD name mz hidden n D.name s) (u:=[.string name,.int .u64 mz,.bool hidden,.bool false,.slice none 0 0,.slice (some (Tac (w2.1.size+1+1) 0)) 1 1]) (w1:=W1) (w2:=W2) (gb:=gb) (cap:=cap) hb hp (bk _));refine aL (fun w'=>w'.cell? (Tac bb 8)=some vv/\w'.cell? L=some (.string name)/\w'.cell? (Tac L 1)=some (.int .u64 mz)/\w'.cell? (Tac L 2)=some (.bool hidden)/\w'.cell? (Tac L 3)=some (.bool false)/\w'.cell? (Tac L 4)=some (.slice none 0 0)/\w'.cell? (Tac L 5)=some (.slice (some (Tac (w2.1.size+1+1) 0)) 1 1)) 8 [0,1,2,3,4] Tc3 (by simp[q8,q0,q1,q2,q3,q4,q5]) (fun a5=>?_);refine fz 0 ?_;refine fz 1 ?_;refine fz 2 ?_;refine fz 3 ?_;refine fz 4 ?_;refine fS 5 a5 ?_;refine fS 6 a5 ?_;refine lR 7 fun K hK=>?_;go_simp;have jn:Below W.1.size W ((W.alloc (.cells (TaK name mz hidden (some ⟨w2.1.size+1+1,0,none⟩)) 68)).drew):=(ae _ _).drew
  have QM:∀(j:Nat) (y:Value),[Cd name,.int .u64 mz,.bool hidden,.bool false,.slice none 0 0,.slice (some (Tac (w2.1.size+1+1) 0)) 1 1][j]?=some y->((W.alloc (.cells (TaK name mz hidden (some ⟨w2.1.size+1+1,0,none⟩)) 68)).drew).cell? ⟨W.1.size,j,none⟩=some y:=fun j y hy=>by
   show(W.alloc _).cell? _=_;exact aD rfl Tdl
  have mA:W.1.size+1=((W.alloc (.cells (TaK name mz hidden (some ⟨w2.1.size+1+1,0,none⟩)) 68)).drew).1.size:=by simp
  have X3:∀w':World,w'.1[bb]?=W.1[bb]?->w'.1[L]?=W.1[L]?->w'.cell? (Tac bb 8)=some vv/\w'.cell? L=some (.string name)/\w'.cell? (Tac L 1)=some (.int .u64 mz)/\w'.cell? (Tac L 2)=some (.bool hidden)/\w'.cell? (Tac L 3)=some (.bool false)/\w'.cell? (Tac L 4)=some (.slice none 0 0)/\w'.cell? (Tac L 5)=some (.slice (some (Tac (w2.1.size+1+1) 0)) 1 1):=fun w' e1 e2 =>
   ⟨(cd (w:=W) e1).trans q8,(cd (w:=W) e2).trans q0,(cd (w:=W) e2).trans q1,(cd (w:=W) e2).trans q2,(cd (w:=W) e2).trans q3,(cd (w:=W) e2).trans q4,(cd (w:=W) e2).trans q5⟩
  generalize R0:(W.alloc (.cells (TaK name mz hidden (some ⟨w2.1.size+1+1,0,none⟩)) 68)).drew=W1 at *;clear R0;refine hK.o _ _ (X3 _ (jn.block bb cX) (jn.block L (aq U2.o))) ?_;clear hK K;refine aP Tc3 rfl ?_;simp only[cQ,cL];refine dX aN.moves underlying28 hi.o du.o On.o RC.o rfl Tc4 Tc4 rfl _ _ Tc7 (bb+1) (fun b=>okB (fD X L) bb nv vv b/\b<W.1.size) vv g.F9 (eD name mz hidden n D.name s) Tc7 (QL.o _ jn).1 W.1.size 1 [.string name,.int .u64 mz,.bool hidden,.bool false,.slice none 0 0,.slice (some (Tac (w2.1.size+1+1) 0)) 1 1] Tc7 Tc7 (QL.o _ jn).2 Tdc QM Tc1 Tc1 H8 (fun gb cap w3 hp=>?_);obtain⟨a8,hx2⟩:=HK.o _ w3 gb cap jn hp;have y8:=(cd (w:=W) (w':=w3) (a:=⟨bb,8,none⟩) a8).trans q8;have yf:=(rh (w:=W) (w':=w3) (a:=⟨bb,8,none⟩) a8).trans qf;have R5:=ZT.o _ w3 gb cap jn hp;have ab:=hp.last 5 _ rfl;replace ab:=aa ab;have cJ:=aa a8;have hgb:gb≠bb:=by
   rintro rfl;obtain⟨cs,ho,_⟩:=hp.own;have:=(ho.lt gb rfl).1;omega
  clear hp a8 hx2 X3 QM;simp only[aS];go_wp2;go_ret;have hv:=hid.o;subst hv;refine .inr ⟨D.name,s,_,_,.snoc (.nil _) hD.o hm.o hs1 hs2 ag,rfl,R5.fewer (fun k hk=>.inl hk),gb,cap,w2.1.size+1+1,rfl,?_⟩;exact(cd (w:=w3) (bw _ _ _ _ hgb)).trans ab.o
 go_wp2;go_ret;exact .inl ⟨rfl,P.fewer (fun k hk=>.inl hk)⟩
def ic(k n:Int)(al:List aR):aB:=⟨0,k*n,2,al,1,[],es,es,0,0,0⟩
def rA(name:ByteArray)(id k n:Int)(al:List aR):ay:=⟨name,id,false,false,[],[ic k n al]⟩
def UO(n:Int)(al:List aR):List (ByteArray × Int × Int):=al.map fun a=>(a.on,a.start,n)
def F6(X:Nat->Prop)(bs bb:Nat)(nv vv:Value)(g:af)(next:List Int)(name:ByteArray)(w:World)(w':World):Prop :=
 (∃ps next',fZ g.Gb next ps next'/\aH X bs bb nv vv w w' nv vv g next') \/
 ∃(k n:Int) (al:List aR) (next':List Int) (pA:Value),2<=k/\k<=3/\1<=n/\n<=2/\(al.length:Int)=k/\(∀a∈al,a.vol=false)/\fZ g.Gb next (UO n al) next' /\
  aH X bs bb nv vv w w' nv pA { g with next:=g.next+1,F9:=g.F9++[rA name (oX g.id (g.next+1)) k n al] } next'
def eW.c0{next:List Int}(h:eW X w bs bb nv vv g next):w.cell? bb=some (.pointer (some bs)):=by
 exact TcD
def dS(N:Nat)(t:TypeId)(cs:List Value)(b:Nat)(w:World):Prop:=N<=b/\w.1[b]?=some (.cells cs.toArray t (0,0))
def rS(N:Nat)(w w':World):Prop:=w.1.size<=w'.1.size/\∀k,N<=k->k<w.1.size->w'.1[k]?=w.1[k]?
def dS.ev{b:Nat}(h:dS N t cs b w)(he:rS N w w'):dS N t cs b w':=⟨h.1,(he.2 b h.1 (aq h.2)).trans h.2⟩
def dS.new(h:N<=w.1.size):dS N t cs w.1.size (w.alloc (.cells cs.toArray t)):=⟨h,b9 w _⟩
def rS.alloc(N:Nat)(w:World)(o:Obj):rS N w (w.alloc o):=⟨Tc2,fun k _ h=>cj _ _ _ h⟩
def rS.refl(N:Nat)(w:World):rS N w w:=⟨bk _,fun _ _ _=>rfl⟩
structure CS(Y:Nat->Prop)(bs bb:Nat)(rK rN nv vv:Value)(w wr:World)(g:af)(next:List Int)(w':World):Prop where
 post:aH Y bs bb rK rN w w' nv vv g next
 size:wr.heap.size<=w'.heap.size
 same:∀k,Y k->w'.heap[k]?=wr.heap[k]?
 oks:∀k,k<wr.heap.size->okB Y bb nv vv k->w'.heap[k]?=wr.heap[k]?
def CS.alloc{next:List Int}(h:CS Y bs bb rK rN nv vv w wr g next w')(o:Obj):CS Y bs bb rK rN nv vv w wr g next (w'.alloc o) :=
 ⟨h.post.after (ae _ _),cA h.size Tc2,fun k hk=>(cj _ _ _ (h.post.bld.xlt k hk).2).trans (h.same k hk),fun k hk ho=>(cj _ _ _ (cC hk h.size)).trans (h.oks k hk ho)⟩
def CS.step{next:List Int}(h:CS Y bs bb rK rN nv vv w wr g next w')(q:aH Y bs bb nv vv w' w2 nv vv g' next'):CS Y bs bb rK rN nv vv w wr g' next' w2 :=
 ⟨h.post.trans q,cA h.size q.mod.size,fun k hk=>(q.loc h.post.bld hk).trans (h.same k hk),fun k hk ho=>(q.loc' h.post.bld ho (cC hk h.size)).trans (h.oks k hk ho)⟩
def CS.ev{next:List Int}(h:eW Y wr bs bb nv vv g next)(q:aH Y bs bb nv vv w' w2 nv vv g' next'):rS wr.1.size w' w2 :=
 ⟨q.mod.size,fun k h1 h2=>q.mod.block k h2 (h.nfp h1)⟩
def rZ(X:Nat->Prop)(L:Nat)(av:Value):Nat->Prop:=fun k=>X k\/k=L\/av.ownBlock=some k
def aH.pushOwn{α:Type}{V:jx α}{sz:Nat}{ok:Nat->Prop}{w1:World}{i B gb cap:Nat}{av:Value}{next:List Int}{l:List α}{p:α}{u:List Value}(h:aH (rZ X L av) bs bb rK rN w w1 nv vv g next)
  (hL:w.1.size<=L) (a5:L<w1.1.size) (hB:L<B) (B4:∀b,av.ownBlock=some b->B<=b) (hp:jN V sz t B ok w1 av l p u gb cap w2) :
  aH (rZ X L (.slice (some gb) (l.length+1) cap)) bs bb rK rN w (w2.setCell (L,i) (.slice (some gb) (l.length+1) cap)) nv vv g next/\w2.1[L]?=w1.1[L]?/\gb≠L/\B<=gb:=by
 have hgb:B<=gb/\gb<w2.1.size:=by
  obtain⟨cs,ho,_⟩:=hp.own;exact ho.lt gb rfl
 refine⟨h.move (((cR.mk hp.grown.os hp.grown.tape hp.grown.output hp.grown.size fun k hk hn=>hp.grown.block k hk fun e=>hn ⟨.inr (.inr e.symm),?_⟩:cR (fun k=>rZ X L av k/\w.1.size<=k) w1 w2)).setCell (p:=⟨L,i,none⟩) (.inl ⟨.inr (.inl rfl),hL⟩) _) (fun k hk=>?_),hp.grown.block L a5 (fun e=>by have:=B4 L e.symm;omega),Tc1,hgb.1⟩
 ·have:=B4 k e.symm;omega
 rcases hk with q|q|q
 ·exact .inl (.inl q)
 ·exact .inl (.inr (.inl q))
 obtain rfl:gb=k:=by injection q
 rcases hp.at' with q|q
 ·exact .inl (.inr (.inr q))
 exact .inr ⟨Tc1,by simp[AF];omega⟩
def TaO(x0:ByteArray)(x1:Int)(x2:Option Addr):Tab #[.string x0,.int .u64 x1,.bool false,.bool false,.slice none 0 0,.slice x2 1 1]:=⟨⟩
def vX(X:Nat->Prop)(bs bb:Nat)(nv vv:Value)(g:af)(next:List Int)(w:World)(h:eW X w bs bb nv vv g next)(hk:BOk g next)(name:ByteArray) :
  Calls prog 21 #[.pointer (some bb),.string name] w (fun e w'=>e=.returned (.tuple #[])/\F6 X bs bb nv vv g next name w w'):=by
 have k0:=hk.n0;have k1:=hk.n1;have k2:=hk.dk.pos;have k3:=hk.dk.le;have k4:=hk.vl;have c0:=h.c0;have cX:=h.Gj;have gO:=h.lt;have sy:¬bb=bs:=by omega
 go_enter func21,ntmps21;go_wp2;refine aL (fun w'=>w'.cell? bb=some (.pointer (some bs))) 10 [0,1,2,5,6,7] Tc3 c0 (fun a5=>?_);refine fz 0 ?_;refine fz 1 ?_;refine fz 2 ?_;refine fz 5 ?_;refine fz 6 ?_;refine fz 7 ?_;refine fS 3 a5 ?_;refine fS 8 a5 ?_;refine lR 4 fun K hK=>?_;go_simp;refine(bO bs 2 3 _ Tc1 Tc1 Tc1 (h.below ((bj _ _).drew)).src).mono ?_;rintro e w1 ⟨v,rfl,aF,aG,hs,hm⟩;refine hK.o _ _ ((hm.cell (p:=bb) cX sy).trans c0) ?_;clear hK K;refine lR 9 fun K hK=>?_;go_simp;have OS:bb<w1.1.size:=cC cX hm.size;refine(bO bs 1 2 _ Tc1 Tc1 Tc1 hs).mono ?_;rintro e w2 ⟨n,rfl,hn1,hn2,hs2,ah⟩;refine hK.o _ _ ((ah.cell (p:=bb) OS sy).trans ((hm.cell (p:=bb) cX sy).trans c0)) ?_;clear hK K;refine aP Tc3 rfl ?_;simp only[cQ,cL];have P2:aH X bs bb nv vv w w2 nv vv g next:=((aH.refl h).drewN 1).read hs hm |>.read hs2 ah;clear hm ah hs hs2;obtain⟨v,rfl⟩:∃u:Nat,v=u:=⟨v.toNat,Tc1⟩;have ai:0<=(v:Int)*n/\(v:Int)*n<=6:=by rcases(show n=1\/n=2 by omega)with rfl|rfl<;>omega
 have hb2:=ai.1;have hb3:=ai.2;clear ai;go_wp2;have TP:w.1.size<=w2.1.size:=P2.mod.size;have P3:=P2.fresh (Y:=rZ X w2.1.size (.slice none 0 0)) (ae w2 (.cells #[.int .i64 0,.int .i64 (v*n),.int .i64 2,.slice none 0 0,.int .i64 1,.slice none 0 0,.string es,.string es,.int .i64 0,.int .i64 0,.int .i64 0] 114)) (by
  rintro k (q|rfl|q)
  ·exact .inl q
  ·exact .inr ⟨bk _,Tc2⟩
  cases q)
 have HL:=aa (b9 w2 (.cells #[.int .i64 0,.int .i64 (v*n),.int .i64 2,.slice none 0 0,.int .i64 1,.slice none 0 0,.string es,.string es,.int .i64 0,.int .i64 0,.int .i64 0] 114));generalize hL:w2.1.size=L at *;replace hL:=aa hL;go_loopw[7] (fun i wr=>∃(k:Nat) (av:Value) (al:List aR) (next':List Int),k<=v/\i=.int .i64 k/\al.length=k/\(∀a∈al,a.vol=false)/\fZ g.Gb next (UO n al) next'/\aH (rZ X L av) bs bb nv vv w wr nv vv g next'/\bF aQ 3 53 (L+1) (fun _=>False) wr av al /\
   wr.1[L]?=some (.cells #[.int .i64 0,.int .i64 (v*n),.int .i64 2,av,.int .i64 1,.slice none 0 0,.string es,.string es,.int .i64 0,.int .i64 0,.int .i64 0] 114 (0,0))) (fun i _=>v-(intOf i).toNat)
 case atStart=>exact⟨0,_,[],_,Tc1,rfl,rfl,Tc2,.nil _,P3,⟨[],gS _ _ _ 3,rfl⟩,HL.o⟩
 obtain⟨k,av,al,next',Vk,rfl,Tp,pS,DB,P,B4,a7⟩:=hrel;replace a7:=aa a7;replace pS:=aa pS;replace Tp:=aa Tp;have dk:=DB.ok hk.dk;obtain⟨dp,ir,c7,l1,l2⟩:=P.bld.c7;by_cases hlt:k<v
 ·have oY:(k:Int)%(g.Gb.length:Int)=((k%g.Gb.length:Nat):Int):=by simp
  have CD:k%g.Gb.length<g.Gb.length:=Nat.mod_lt _ k2;generalize hd:k%g.Gb.length=d at *;replace hd:=aa hd;obtain⟨D,hD⟩:=aj g.Gb d CD;obtain⟨m,hm⟩:=aj next' d (by rw[dk.len];exact CD);have QK:=dk.nx d m hm;replace hD:=aa hD;replace hm:=aa hm;go_wp2_with fail;refine(qR (rZ X L av) bs bb nv vv _ next' _ P.bld d D m n hD.o hm.o QK.1 Tc1 Tc1 Tc1).mono ?_;rintro e w3 (⟨rfl,Q,_⟩|⟨s,hs1,hs2,rfl,Q,_⟩)
  ·go_wp2;refine eC (results_none rfl _ _ _) rfl ⟨rfl,.inl ⟨_,_,DB,((P.trans Q).after (ae _ _)).fewer (fun k hk=>.inl hk)⟩⟩
  have R3:=P.trans Q;have QP:=aa ((Q.loc P.bld (.inr (.inl rfl))).trans a7.o);have QQ:bF aQ 3 53 (L+1) (fun _=>False) w3 av al:=by
   obtain⟨cs,ho,hf⟩:=B4;exact⟨cs,aC ho fun b e=>Q.loc P.bld (.inr (.inr e)),Flat.moves aQ.moves ⟨Q.mod.size,fun _ _ f=>f.elim⟩ _ _ hf⟩
  have ak:L<w3.1.size:=aq QP.o;have ZV:∀o,(w3.alloc o).cell? (Tac L 3)=some av:=fun o=>by simp[AN,cj _ _ _ ak,QP.o]
  obtain⟨i0,hi,du,On,RC⟩:=gg kL;replace hi:=aa hi;replace du:=aa du;replace On:=aa On;replace RC:=aa RC;have hll:al.length<=1000000:=by have:=Tp.o;omega
  have a8:Below w3.1.size w3 ((w3.alloc (.cells (Tau D.name s) 53)).alloc (.cells (Tau D.name s) 53)):=((bj _ _).alloc (bk _) _).alloc Tc2 _;go_wp2_with(at_builtin;refine dX aQ.moves underlying49 hi.o du.o On.o RC.o rfl Tc4 Tc4 rfl _ _ rfl (L+1) (fun _=>False) av al ⟨false,D.name,s⟩ rfl ?c1 (w3.1.size+1) 1 [.bool false,.string D.name,.int .i64 s] rfl rfl rfl ?c2 ?c3 hll ?c4 (fun _ _ f=>f) ?_)
  case c1 =>
   obtain⟨cs,ho,hf⟩:=QQ;exact⟨cs,eF ho fun i h1 h2=>a8.block i h2,Flat.moves aQ.moves ⟨a8.size,fun _ _ f=>f.elim⟩ _ _ hf⟩
  case c2=>simp[GS]
  case c3 =>
   intro j y hy;exact aD Tc2 Tdl
  case c4=>simp;omega
  intro gb cap w4 hp;obtain⟨R5,e4,K2,TR⟩:=(R3.after a8).pushOwn (i:=3) TP (by have:=a8.size;omega) (Nat.lt_succ_self L) (fun b e=>by
   obtain⟨cs,ho,_⟩:=QQ;exact(ho.lt b e).1) hp
  have e5:=e4.trans (a8.block L ak);have y3:=(cd (w:=w3) (w':=w4) (a:=⟨L,3,none⟩) e5).trans (show w3.cell? (Tac L 3)=some av by simp[AN,QP.o]);have yf:=(rh (w:=w3) (w':=w4) (a:=⟨L,3,none⟩) e5).trans (show w3.frozen? (Tac L 3)=false by simp[BT,QP.o]);have ZW:=aa (e5.trans QP.o);replace hp:=aa hp;clear e4 e5 ZV;go_wp2;go_roundw
  case rel =>
   refine⟨k+1,_,al++[⟨false,D.name,s⟩],_,Tc1,Tc5,by rw[cD,Tp.o];rfl,fun a ha=>?_,?_,R5,?_,?_⟩
   ·rcases AS.1 ha with q|q
    ·exact pS.o a q
    simp at q;rw[q]
   ·rw[UO,gl];exact .snoc DB hD.o hm.o hs1 hs2 hn1
   ·obtain⟨cs,ho,hf⟩:=hp.o.own;refine⟨cs,aC ho fun b e=>?_,Flat.moves aQ.moves ⟨Tdd,fun _ _ f=>f.elim⟩ _ _ hf⟩;obtain rfl:gb=b:=by injection e
    exact bw _ _ _ _ K2
   exact block_setCell (cs:=#[_,_,_,_,_,_,_,_,_,_,_]) (i:=3) _ ZW.o
  simp[intOf];omega
 obtain rfl:k=v:=by omega
 have c8:=P.bld.c8;have ak:L<wr.1.size:=aq a7.o;have qL:=cr a7.o;obtain⟨q0,q1,q2,q3,q4,q5,q6,q7,q8,q9,au⟩:=IC qL;replace qL:=aa qL;go_wp2;refine aL (fun w'=>w'.cell? (Tac bb 8)=some vv/\w'.cell? L=some (.int .i64 0)/\w'.cell? (Tac L 1)=some (.int .i64 (k*n))/\w'.cell? (Tac L 2)=some (.int .i64 2)/\w'.cell? (Tac L 3)=some av/\w'.cell? (Tac L 4)=some (.int .i64 1)/\w'.cell? (Tac L 5)=some (.slice none 0 0)/\w'.cell? (Tac L 6)=some (.string es)/\w'.cell? (Tac L 7)=some (.string es)/\w'.cell? (Tac L 8)=some (.int .i64 0)/\w'.cell? (Tac L 9)=some (.int .i64 0)/\w'.cell? (Tac L 10)=some (.int .i64 0)) 13 [0,1,2,3,4,6,7] Tc3 (by simp[c8,q0,q1,q2,q3,q4,q5,q6,q7,q8,q9,au]) (fun a5=>?_);refine fz 0 ?_;refine fz 1 ?_;refine fz 2 ?_;refine fz 3 ?_;refine fz 4 ?_;refine fz 6 ?_;refine fz 7 ?_;refine fS 5 a5 ?_;refine fS 9 a5 ?_;generalize ag:oX g.id (g.next+1)=mz;replace ag:=aa ag;clear q0 q1 q2 q3 q4 q5 q6 q7 q8 q9 au c8 c7;have ay:CS (rZ X L av) bs bb nv vv nv vv w wr.drew g next' wr.drew:=⟨P.drewN 1,bk _,fun _ _=>rfl,fun _ _ _=>rfl⟩
 have U4:bF aQ 3 53 (L+1) (fun _=>False) wr.drew av al:=by
  obtain⟨cs,ho,hf⟩:=B4;exact⟨cs,ho,Flat.moves (ok:=fun _=>False) (w:=wr) (w':=wr.drew) aQ.moves ⟨bk _,fun _ _ f=>f.elim⟩ _ _ hf⟩
 generalize az:wr.drew=wd at *;have pB:eW (rZ X L av) wd bs bb nv vv g next':=ay.post.bld;have ZX:Hid (wd.1[L]?=some (.cells #[.int .i64 0,.int .i64 (k*n),.int .i64 2,av,.int .i64 1,.slice none 0 0,.string es,.string es,.int .i64 0,.int .i64 0,.int .i64 0] 114 (0,0))):=by
  rw[<- az];exact a7.o
 clear az;refine fE (idx:=[(8,59),(10,61),(11,62),(12,63)])
  (fun i=>[i]) (fun i vs w'=>match i with
   |8=>vs 8=.int .u64 mz
   |10=>∃b,vs 10=.slice (some ⟨b,0,none⟩) 1 1/\dS wd.1.size 114 [.int .i64 0,.int .i64 (k*n),.int .i64 2,av,.int .i64 1,.slice none 0 0,.string es,.string es,.int .i64 0,.int .i64 0,.int .i64 0] b w'
   |11=>∃b,vs 11=.agg (TaO name mz (some ⟨b,0,none⟩))/\dS wd.1.size 114 [.int .i64 0,.int .i64 (k*n),.int .i64 2,av,.int .i64 1,.slice none 0 0,.string es,.string es,.int .i64 0,.int .i64 0,.int .i64 0] b w'
   |12=>∃c b,vs 12=.slice (some ⟨c,0,none⟩) 1 1/\dS wd.1.size 68 [.string name,.int .u64 mz,.bool false,.bool false,.slice none 0 0,.slice (some ⟨b,0,none⟩) 1 1] c w'/\dS wd.1.size 114 [.int .i64 0,.int .i64 (k*n),.int .i64 2,av,.int .i64 1,.slice none 0 0,.string es,.string es,.int .i64 0,.int .i64 0,.int .i64 0] b w'
   |_=>True)
  (fun d w'=>CS (rZ X L av) bs bb nv vv nv vv w wd { g with next:=if d 8=true then g.next+1 else g.next } next' w') (fun _=>rS wd.1.size) Tc3 rfl ?cs ?st (fun _ _ _ _ h=>h) ?c0 ?ob ?fin
 case c0=>exact ay
 case cs =>
  intro d w' hC;have e:=(hC.same L (.inr (.inl rfl))).trans ZX.o;refine⟨hC.post.bld.c8,?_⟩;simp[AN,e]
 case st =>
  intro p hp q _ _ vs us w1 w2 ha hF he;simp only[dr,cY,dg]at hp;rcases hp with rfl|rfl|rfl|rfl
  ·exact(ha 8 (cG ..)).trans hF
  ·obtain⟨b,e,hb⟩:=hF;exact⟨b,(ha 10 (cG ..)).trans e,hb.ev he⟩
  ·obtain⟨b,e,hb⟩:=hF;exact⟨b,(ha 11 (cG ..)).trans e,hb.ev he⟩
  obtain⟨c,b,e,hc,hb⟩:=hF;exact⟨c,b,(ha 12 (cG ..)).trans e,hc.ev he,hb.ev he⟩
 case ob =>
  refine kA.cons (deps:=[]) rfl rfl Tc3 (fun vs d w' h0 hC hF K hK=>?_) ?_
  ·clear hF;simp only at h0;simp only[h0,pj,fY]at hC;have hb:=hC.post.bld;simp only[over,cq,Act.put];go_simp;refine(vS (rZ X L av) bs bb nv vv g next' w' hb Tc1 Tc1).mono ?_;rintro e w2 ⟨rfl,q⟩;refine hK.o (.int .u64 (oX g.id (g.next+1))) w2 ?_ (CS.ev pB q) ((aw rfl).trans (fj (Bm .u64) ag.o)) _ ?_
   ·simp only[h0,nj,BEq.rfl,ej];exact hC.step q
   simp only[over,cq,aS]
  refine kA.cons (deps:=[]) rfl rfl Tc3 (fun vs d w' h0 hC hF K hK=>?_) ?_
  ·clear hF;simp only[over,cq,Act.put];go_simp;refine hK.o (.slice (some w'.1.size) 1 1) _ ?_ (rS.alloc _ _ _) ⟨_,aw rfl,dS.new hC.size⟩ _ ?_
   ·simp only[show(d 8||(8:Nat)==10)=d 8 from by simp];exact hC.alloc _
   simp only[over,cq,aS]
  refine kA.cons (deps:=[(8,59),(10,61)]) rfl rfl Tc3 (fun vs d w' h0 hC hF K hK=>?_) ?_
  ·have f8:=(hF (8,59) Tc2).2;have a9:=(hF (10,61) Tc2).2;clear hF;simp only[over,cq,cF,aS]at f8 a9 ⊢;obtain⟨b,e10,hb⟩:=a9;rw[f8,e10]at ⊢;go_simp;refine hK.o (.agg (TaO name mz (some ⟨b,0,none⟩))) _ ?_ (rS.refl _ _) ⟨_,aw rfl,hb⟩ _ ?_
   ·simp only[show(d 8||(8:Nat)==11)=d 8 from by simp];exact hC
   simp only[over,cq,cF,aS,f8,e10]
  refine kA.cons (deps:=[(11,62)]) rfl rfl Tc3 (fun vs d w' h0 hC hF K hK=>?_) trivial;have ab:=(hF (11,62) Tc2).2;clear hF;simp only[over,cq,cF,aS]at ab ⊢;obtain⟨b,aA,hb⟩:=ab;rw[aA]at ⊢;go_simp;refine hK.o (.slice (some w'.1.size) 1 1) _ ?_ (rS.alloc _ _ _) ⟨_,b,aw rfl,dS.new hC.size,hb.ev (rS.alloc _ _ _)⟩ _ ?_
  ·simp only[show(d 8||(8:Nat)==12)=d 8 from by simp];exact hC.alloc _
  simp only[over,cq,cF,aS,aA]
 case fin =>
  intro vs d w' hC hF;have f8:=(hF (8,59) Tc2).2;have a9:=(hF (10,61) Tc2).2;have ab:=(hF (11,62) Tc2).2;have aB:=(hF (12,63) Tc2).2;have am:=(hF (8,59) Tc2).1;clear hF;simp only[over,cq,cF,aS,cQ,cL]at f8 a9 ab aB am ⊢;obtain⟨c,b,aE,hc,hb⟩:=aB;rw[aE];simp only[am,ej]at hC;generalize vs 8=v8;generalize vs 10=v10;generalize vs 11=v11;clear f8 a9 ab am aE;have P':aH X bs bb nv vv w w' nv vv { g with next:=g.next+1 } next':=hC.post.fewer fun k hk=>.inl hk
  have TS:eW X wd bs bb nv vv g next':=pB.fewer fun k hk=>.inl hk;have hbl:=P'.bld.Gj
  have RA:ck aQ 3 (okB X bb nv vv) w' [av] al:=by
   have ha:bF aQ 3 53 (L+1) (fun _=>False) w' av al:=by
    obtain⟨cs,ho,hf⟩:=U4;exact⟨cs,aC ho fun b e=>hC.same b (.inr (.inr e)),Flat.moves aQ.moves ⟨hC.size,fun _ _ f=>f.elim⟩ _ _ hf⟩
   refine ha.rd aQ.moves Tc4 (fun _ _ f=>f.elim) (fun b e=>⟨(pB.xlt b (.inr (.inr e))).1,fun q=>pB.xn b q (.inr (.inr e)),fun q=>pB.xv b q (.inr (.inr e)),fun hx=>?_⟩);obtain⟨cs,ho,_⟩:=ha;have:=(ho.lt b e).1;have:=(h.xlt b hx).2;omega
  have RV:aN (okB X bb nv vv) w' [.string name,.int .u64 mz,.bool false,.bool false,.slice none 0 0,.slice (some b) 1 1] (rA name mz k n al) :=
   ⟨_,_,rfl,ck.nil,ck.one hb.2 (TS.okNew hb.1) rfl ⟨_,_,rfl,RA,ck.nil⟩⟩
  have kf:=P'.bld.ready RV w' (bj _ _);obtain⟨i0,hi,du,On,RC⟩:=gg zT;refine dX aN.moves underlying28 hi du On RC rfl Tc4 Tc4 rfl _ _ Tc7 (bb+1) (fun b=>okB X bb nv vv b/\b<w'.1.size) vv g.F9 (rA name mz k n al) Tc7 kf.1 c 1 [.string name,.int .u64 mz,.bool false,.bool false,.slice none 0 0,.slice (some ⟨b,0,none⟩) 1 1] Tc7 Tc7 kf.2 Tdc (fun j y hy=>?_) Tc1 Tc1 H8 (fun gb cap w3 hp=>?_)
  ·simp only[AN,hc.2];simpa using hy
  obtain⟨ao,hx2⟩:=P'.bld.pushKeeps (bj _ _) hp;have y8:=(cd (w:=w') (w':=w3) (a:=⟨bb,8,none⟩) ao).trans P'.bld.c8;have yf:=(rh (w:=w') (w':=w3) (a:=⟨bb,8,none⟩) ao).trans (P'.bld.bfr 8);have R5:=P'.push (bj _ _) hp (bk _);clear hp ao hx2 kf RV RA hC hc hb hi du On RC;simp only[aS];go_wp2;go_end0
  have hv:=ag.o;subst hv;exact⟨rfl,.inr ⟨k,n,al,next',_,aF,aG,hn1,hn2,by rw[Tp.o],pS.o,DB,R5⟩⟩
end Go.Proofs.YtaagglbgohjldaaGreatDoor
