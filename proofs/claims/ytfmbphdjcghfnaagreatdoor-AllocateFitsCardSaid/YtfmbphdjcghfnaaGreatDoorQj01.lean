/- Lemmas: Reg, Base, Glue, MkA, MkC, MkD, Flo, MkI, MkJ, MkK, MkQ, SpA. -/
import Derived.Test.YtfmbphdjcghfnaaGreatDoorRows
import Derived.BigQuiet
import Derived.Lib.Hide
import Derived.ProofKit
import Derived.Deep.SlicePairs
import Derived.OpenShut
import Derived.WalkSpells
import Derived.WalkLawsBesides
import Derived.StillTailTactics
import Derived.Deep.DeepCutAuto
import Derived.Deep.CutBlock
import Derived.Deep.RegionLaw
import Derived.Deep.RegionHeld3
set_option maxRecDepth 100000
set_option maxHeartbeats 32000000
set_option linter.all false
open List renaming length→Wq,mem_cons→DQ,all_eq_true→An,any_eq_true→GP,pairwise_append→GB,mem_append→AS,mem_flatMap→BY,range→FF,mem_range→DP,getElem?_eq_some_iff→AT,mem_map→As,mem_filter→DS,filter_eq_nil_iff→NX,nil_append→GO
open Array renaming replicate→GW,getElem?_eq_some_iff→F1
open Go.World renaming frozen?→BT,cell?→AN,setCell→AF,alloc→AI
open Go.Region renaming ready→BE,binds→EV,noSelect→GS,lexHead→Lw,seqB→KK,waitsFor→NO,free→Is,wanted→Cd
open Go.Value renaming int→Bm,string→By,slice→FG
open Go.IntKind renaming i64→Sj,u64→U8
open Go.Obj renaming cells→Sx
open Go.Value renaming pointer→SL,bool→Ft,agg→Tk,tuple→Vj
open Go.Ending renaming returned→S6
open Option renaming some→Vv,none→VX
open Bool renaming false→VN,true→VR
open Decidable renaming decide→V7
namespace Go.Proofs.YtfmbphdjcghfnaaGreatDoor
variable{gt:Prop}
def Ti(h:gt:=by simp[intOf];omega):=h
open Go.Proofs.Tryz
theorem lX{α:Sort _}{a:α}:a=a:=Eq.refl a
abbrev zY:=Go.Value
abbrev wy(α:Type):=List α
abbrev H5:=Int × Int
abbrev H6:=ByteArray
abbrev H7:=World
abbrev IH:=Option Addr
abbrev LN:=Nat->Prop
abbrev N2:=Exit->Act->H7->Prop
abbrev PI:=wy Int
abbrev QN:=wy H6
abbrev RH:=wy zY
abbrev RU:=wy H5
instance:CoeTail Int zY:=⟨Bm Sj⟩
instance:CoeTail Bool zY:=⟨Ft⟩
instance:CoeTail H6 zY:=⟨By⟩
instance:CoeTail Nat zY:=⟨fun b=>SL (Vv ⟨b,0,VX⟩)⟩
instance:CoeTail Addr zY:=⟨fun b=>SL (Vv b)⟩
structure Taa{α:Type _}(a:α):Type where
instance {α:Type _}{a:α}:CoeHead (Taa a) α:=⟨fun _=>a⟩
instance {p:Prop}:CoeSort (Taa p) Prop:=⟨fun _=>p⟩
abbrev Tab:=@Taa (Array zY)
instance:Coe Nat Addr:=⟨fun b=>⟨b,0,VX⟩⟩
instance {b i}:CoeDep (Nat×Nat) (b,i) Addr:=⟨⟨b,i,VX⟩⟩
def XM(b i:Nat):Taa (⟨b,i,VX⟩:Addr):=⟨⟩
variable {W w w':H7}{l:RH}{t:TypeId}{k:Nat}{a0 a1 a2 a3 a4 a5 a6:zY}
abbrev cd:=@Go.World.cell?_of_block
abbrev bw:=@Go.RowKit.Below.heap_setCell
abbrev aq:=@Go.lt_of_block
abbrev b9:=@Go.heap_alloc_new
abbrev ct:=@List.mem_of_getElem?
abbrev bj:=@Go.RowKit.Below.refl
abbrev bk:=@Nat.le_refl
abbrev cj:=@Go.RowKit.Below.heap_alloc
abbrev cD:=@List.length_append
abbrev cq:=@List.foldl_nil
abbrev cP:=@Go.World.block_lt_of_cell?
abbrev cC:=@Nat.lt_of_lt_of_le
abbrev cG:=@List.mem_cons_self
abbrev cg:=@Nat.zero_le
abbrev cQ:=@List.drop_succ_cons
abbrev cF:=@List.foldl_cons
abbrev cI:=@List.take_length
abbrev aw:=@if_pos
abbrev cN:=@decide_eq_false
abbrev bh:=@if_neg
abbrev cA:=@Nat.le_trans
abbrev cS:=@List.length_cons
abbrev cL:=@List.drop_zero
abbrev cV:=@List.append_assoc
abbrev cW:=@Go.World.size_alloc
abbrev eV:=@List.mem_of_find?_eq_some
abbrev fX:=@List.eq_nil_of_length_eq_zero
abbrev cY:=@List.not_mem_nil
abbrev eh:=@Bool.and_eq_true
abbrev ey:=@List.length_take
abbrev dy:=@Go.IntWalk.i64_in
abbrev fc:=@List.getElem?_of_mem
abbrev dr:=@DQ
abbrev eA:=@decide_eq_true
abbrev eL:=@An
abbrev dT:=@Go.RowKit.Below.alloc
abbrev fk:=@decide_eq_true_eq
abbrev fh:=@Go.World.ownsRow.lt
abbrev eM:=@List.append_nil
abbrev mC:=@Go.RowKit.Below.drew
abbrev gg:=@Go.info_parts
abbrev eC:=@Go.bodyPost_ret
abbrev jz:=@List.take_of_length_le
abbrev lO:=@List.getElem?_eq_getElem
abbrev ju:=@List.mem_append_left
abbrev eJ:=@Nat.zero_add
abbrev fW:=@List.length_map
abbrev gS:=@Go.World.ownsRow_nil
abbrev gl:=@List.map_append
abbrev kn:=@List.mem_cons_of_mem
abbrev ux:=@List.length_nil
abbrev fg:=@Nat.add_zero
abbrev dg:=@or_false
abbrev gj:=@Option.some.inj
abbrev ri:=@List.getElem?_take_of_lt
abbrev fp:=@Nat.mul_one
abbrev tB:=@List.drop_eq_getElem_cons
abbrev rh:=@Go.World.frozen?_of_block
abbrev ap8:=@List.all_eq_false
abbrev iv:=@List.take_zero
abbrev fR:=@Go.wpQuiet_nil
abbrev lB:=@List.flatMap_cons
abbrev fN:=@Go.RowKit.Below.grown
abbrev rk:=@List.take_append_drop
abbrev po:=@Go.Calls.quiet_of_same
abbrev xT:=@List.setIfInBounds_toArray
abbrev iu:=@List.map_cons
abbrev pk:=@List.getElem?_drop
abbrev ej:=@if_true
abbrev pj:=@Bool.false_eq_true
abbrev lz:=@Int.ediv_nonneg
abbrev nh:=@GP
abbrev mS:=@Int.ediv_le_self
abbrev tk:=@List.length_filter_le
abbrev iz:=@Go.Addr.add_lit
abbrev Cp:=@List.getElem?_append_right
abbrev tA:=@Nat.mul_le_mul_right
abbrev CC:=@Int.tdiv_eq_ediv_of_nonneg
abbrev rr:=@Nat.lt_of_le_of_lt
abbrev mN:=@Bool.eq_iff_iff
abbrev km:=@List.drop_nil
abbrev xp:=@Array.getElem?_eq_none
abbrev aa0:=@Array.getElem?_eq_getElem
abbrev xj:=@List.getElem?_eq_none
abbrev nj:=@Bool.false_or
abbrev ix:=@Go.ready_mono
abbrev tz:=@Bool.not_eq_true'
abbrev lA:=@Go.Maps.keyOf_int_mk
abbrev tD:=@List.find?_append
abbrev xi:=@List.take_succ_cons
abbrev xt:=@List.flatMap_append
abbrev rj:=@List.any_append
abbrev Fo:=@List.getElem?_append_left
abbrev Cl:=@Go.Lib.run_eql_slice_nil
abbrev P9:=@List.mem_append_right
abbrev CA:=@ByteArray.size_append
abbrev xF:=@List.getElem?_take
abbrev FA:=@Array.setIfInBounds_comm
abbrev ly:=@Go.getD_set_ne
abbrev XS:=@Go.Region.noSelect_spec
abbrev tR:=@List.mem_of_mem_take
abbrev P7:=@Nat.add_mul
abbrev tP:=@GB
abbrev rI:=@List.getElem?_map
abbrev oT:=@AS
abbrev fj:=@congrArg
abbrev oA:=@Int.mul_nonneg
abbrev tM:=@List.mem_replicate
abbrev BW:=@Array.getElem?_modify
abbrev A4:=@List.length_singleton
abbrev rp:=@List.cons.injEq
abbrev mm:=@Nat.lt_or_ge
abbrev A5:=@Go.Region.waitsFor_spec
abbrev tE:=@Go.wpList_append_own
abbrev af1:=@List.take_succ_eq_append_getElem
abbrev ud:=@Go.Result.andThen_ok
abbrev fY:=@if_false
abbrev A6:=@Go.ByteArray.toList_eq
abbrev D4:=@Int.eq_ofNat_of_zero_le
abbrev tS:=@List.map_toArray
abbrev E1:=@List.filter_cons_of_pos
abbrev ae7:=@List.filter_cons_of_neg
abbrev tI:=@Go.Fence.wide_round
abbrev ur:=@BY
abbrev B0:=@Nat.eq_or_lt_of_le
abbrev oB:=@getElem!_pos
abbrev kt:=@Go.RowKit.Below.mono
abbrev tG:=@Bool.or_eq_true
abbrev ub:=@Go.Oper.semAt_none
abbrev DO:=@List.length_mergeSort
abbrev E0:=@List.filterMap_append
abbrev A0:=@List.filter_congr
abbrev Bk:=@List.ext_getElem?
abbrev ue:=@Nat.mul_le_mul
abbrev tW:=@Int.mul_le_mul
abbrev tU:=@Go.run_underlying
def _root_.Go.RowKit.Hid.o{p:Prop} (h:Go.RowKit.Hid p):p:=h.out
def TcK(h:gt:=by
 simp only[World.cell?,h];simpa using hz):=h
variable{W' c w0:H7}{ls next:PI}{av v1:zY}{A b base cap k0 off:Nat}{a':Act}{ty:TypeId}{s x:Operand}{vs:Nat->zY}{ps:wy (H6 × H5)}{K:Act->H7->Prop}{js:wy (Nat × Nat)}
def cr     {q:Nat × Nat} (h:W.1[b]?=Vv (Sx l.toArray t q)) (i:Nat) (z:zY) (hz:l[i]?=Vv z):W.cell? (b,i)=Vv z:=by
 exact TcK
def sr   {l:Array zY}  (h:W.1[b]?=Vv (Sx l t (0,0))) (i:Nat):W.frozen? (b,i)=VN:=by simp[BT,h]
def sw2     (e:w'.1[b]?=w.1[b]?) (h:∀(i:Nat) (z:zY),(a0::a1::l)[i]?=Vv z->w.cell? (b,k+i)=Vv z):w'.cell? (b,k)=Vv a0/\w'.cell? (b,k+1)=Vv a1:=⟨(cd (a:=⟨b,k+0,VX⟩) e).trans (h 0 _ lX),(cd (a:=⟨b,k+1,VX⟩) e).trans (h 1 _ lX)⟩
def Mn     (e:w'.1[b]?=w.1[b]?) (h:∀(i:Nat) (z:zY),(a0::a1::a2::l)[i]?=Vv z->w.cell? (b,k+i)=Vv z):w'.cell? (b,k)=Vv a0/\w'.cell? (b,k+1)=Vv a1/\w'.cell? (b,k+2)=Vv a2:=⟨(cd (a:=⟨b,k+0,VX⟩) e).trans (h 0 _ lX),(cd (a:=⟨b,k+1,VX⟩) e).trans (h 1 _ lX),(cd (a:=⟨b,k+2,VX⟩) e).trans (h 2 _ lX)⟩
def sw4     (e:w'.1[b]?=w.1[b]?) (h:∀(i:Nat) (z:zY),(a0::a1::a2::a3::l)[i]?=Vv z->w.cell? (b,k+i)=Vv z):w'.cell? (b,k)=Vv a0/\w'.cell? (b,k+1)=Vv a1/\w'.cell? (b,k+2)=Vv a2/\w'.cell? (b,k+3)=Vv a3:=⟨(cd (a:=⟨b,k+0,VX⟩) e).trans (h 0 _ lX),(cd (a:=⟨b,k+1,VX⟩) e).trans (h 1 _ lX),(cd (a:=⟨b,k+2,VX⟩) e).trans (h 2 _ lX),(cd (a:=⟨b,k+3,VX⟩) e).trans (h 3 _ lX)⟩
def sw6     (e:w'.1[b]?=w.1[b]?) (h:∀(i:Nat) (z:zY),(a0::a1::a2::a3::a4::a5::l)[i]?=Vv z->w.cell? (b,k+i)=Vv z):w'.cell? (b,k)=Vv a0/\w'.cell? (b,k+1)=Vv a1/\w'.cell? (b,k+2)=Vv a2/\w'.cell? (b,k+3)=Vv a3/\w'.cell? (b,k+4)=Vv a4/\w'.cell? (b,k+5)=Vv a5:=⟨(cd (a:=⟨b,k+0,VX⟩) e).trans (h 0 _ lX),(cd (a:=⟨b,k+1,VX⟩) e).trans (h 1 _ lX),(cd (a:=⟨b,k+2,VX⟩) e).trans (h 2 _ lX),(cd (a:=⟨b,k+3,VX⟩) e).trans (h 3 _ lX),(cd (a:=⟨b,k+4,VX⟩) e).trans (h 4 _ lX),(cd (a:=⟨b,k+5,VX⟩) e).trans (h 5 _ lX)⟩
def sw7     (e:w'.1[b]?=w.1[b]?) (h:∀(i:Nat) (z:zY),(a0::a1::a2::a3::a4::a5::a6::l)[i]?=Vv z->w.cell? (b,k+i)=Vv z):w'.cell? (b,k)=Vv a0/\w'.cell? (b,k+1)=Vv a1/\w'.cell? (b,k+2)=Vv a2/\w'.cell? (b,k+3)=Vv a3/\w'.cell? (b,k+4)=Vv a4/\w'.cell? (b,k+5)=Vv a5/\w'.cell? (b,k+6)=Vv a6:=⟨(cd (a:=⟨b,k+0,VX⟩) e).trans (h 0 _ lX),(cd (a:=⟨b,k+1,VX⟩) e).trans (h 1 _ lX),(cd (a:=⟨b,k+2,VX⟩) e).trans (h 2 _ lX),(cd (a:=⟨b,k+3,VX⟩) e).trans (h 3 _ lX),(cd (a:=⟨b,k+4,VX⟩) e).trans (h 4 _ lX),(cd (a:=⟨b,k+5,VX⟩) e).trans (h 5 _ lX),(cd (a:=⟨b,k+6,VX⟩) e).trans (h 6 _ lX)⟩
def ak5   {a7 a8 a9 ab:zY}  (e:w'.1[b]?=w.1[b]?) (h:∀(i:Nat) (z:zY),(a0::a1::a2::a3::a4::a5::a6::a7::a8::a9::ab::l)[i]?=Vv z->w.cell? (b,k+i)=Vv z):w'.cell? (b,k)=Vv a0/\w'.cell? (b,k+1)=Vv a1/\w'.cell? (b,k+2)=Vv a2/\w'.cell? (b,k+3)=Vv a3/\w'.cell? (b,k+4)=Vv a4/\w'.cell? (b,k+5)=Vv a5/\w'.cell? (b,k+6)=Vv a6/\w'.cell? (b,k+7)=Vv a7/\w'.cell? (b,k+8)=Vv a8/\w'.cell? (b,k+9)=Vv a9/\w'.cell? (b,k+10)=Vv ab:=⟨(cd (a:=⟨b,k+0,VX⟩) e).trans (h 0 _ lX),(cd (a:=⟨b,k+1,VX⟩) e).trans (h 1 _ lX),(cd (a:=⟨b,k+2,VX⟩) e).trans (h 2 _ lX),(cd (a:=⟨b,k+3,VX⟩) e).trans (h 3 _ lX),(cd (a:=⟨b,k+4,VX⟩) e).trans (h 4 _ lX),(cd (a:=⟨b,k+5,VX⟩) e).trans (h 5 _ lX),(cd (a:=⟨b,k+6,VX⟩) e).trans (h 6 _ lX),(cd (a:=⟨b,k+7,VX⟩) e).trans (h 7 _ lX),(cd (a:=⟨b,k+8,VX⟩) e).trans (h 8 _ lX),(cd (a:=⟨b,k+9,VX⟩) e).trans (h 9 _ lX),(cd (a:=⟨b,k+10,VX⟩) e).trans (h 10 _ lX)⟩
section
variable {P:Program}{ops:Array Oper}{md:Region.Mode}{C:H7->Prop}
variable {n g i id k:Nat}{L:Array Bool->Act->Prop}{oi:Oper}{v:zY}{Lq:Act->Prop}{Q:N2}{a:Act}{w:H7}{l:wy Oper}{listed:Array Bool}
def iZ(P:Program)(md:Region.Mode)(ops:Array Oper)(C:H7->Prop)(n:Nat)(L:Array Bool->Act->Prop):Nat->Array Bool->Act->Prop
 |0,listed,a=>L listed a
 |f+1,listed,a=>BE md ops listed≠[]/\∀i∈BE md ops listed,i<n/\qOp P ops C i (iZ P md ops C n L f (listed.setIfInBounds i VR)) a
def iN{Q':N2}(hL:∀listed a w,C w->L listed a->wpAny P md ops Q' g listed a w) :
  ∀(f:Nat) (listed:Array Bool) (a:Act) (w:H7),C w->iZ P md ops C n L f listed a->wpAny P md ops Q' (f+g) listed a w
 |0,listed,a,w,hw,h=>by rw[eJ];exact hL _ _ _ hw h
 |f+1,listed,a,w,hw,h=>by
  rw[show f+1+g=(f+g)+1 by omega];exact⟨fun h0=>absurd h0 h.1,fun i hi=>wpOp_of_qOp hw (fun a' w' a5 h'=>iN hL f _ a' w' a5 h') (h.2 i hi).2⟩
def Tdv(h:gt:=by rw[h]at hr;cases hr):=h
theorem sw(hi:ops[i]?=Vv oi)(mj:∀(j:Nat) (o:Oper) cs b,ops[j]?=Vv o->o.op≠.select cs b)
  (hs:Region.sinkB md ops n=VR) (hc:Region.chainB md ops n=VR) (hn:n<ops.size) (a8:i<n)
  (a5:∀listed a,L listed a->∀j∈BE md ops listed,n<=j) :
  ∀(f:Nat) (listed:Array Bool) (a:Act),HeadInv md ops n listed ->
   (∀j oj,ops[j]?=Vv oj->j≠i->listed.getD j VR=VN->(∀e∈oj.after,EV md e=VR->e.on≠i)->oi.apart ops oj=VR) ->
   i∈BE md ops listed->YieldsIn P ops C oi v a ->
   iZ P md ops C n L f (listed.setIfInBounds i VR) (a.put oi.dst v)->iZ P md ops C n L (f+1) listed a:=by
 intro f;induction f with
 |zero =>
  intro listed a inv _ hr hy H;have pN:=(mem_ready.1 hr).1;refine⟨fun h=>Tdv,fun j hj=>?_⟩;have a7:j<n:=(mm j n).elim id fun h=>absurd hj (tail_waits hs hc hn inv _ i lX a8 pN j h);refine⟨a7,?_⟩
  by_cases nr:j=i
  ·subst nr;exact hy.qOp hi H
  have:=a5 _ _ H j (ix hj nr);omega
 |succ f ih =>
  intro listed a inv Uy hr hy H;have pN:=(mem_ready.1 hr).1;refine⟨fun h=>Tdv,fun j hj=>?_⟩;have a7:j<n:=(mm j n).elim id fun h=>absurd hj (tail_waits hs hc hn inv _ i lX a8 pN j h);refine⟨a7,?_⟩
  by_cases nr:j=i
  ·subst nr;exact hy.qOp hi H
  have h1:=(H.2 j (ix hj nr)).2;obtain⟨zj,oj,F0,hall⟩:=mem_ready.1 hj;have a9:∀e∈oj.after,EV md e=VR->e.on≠i:=fun e he hb heq=>by
   have h1:=hall e he hb;rw[heq,getD_both pN]at h1;cases h1
  have h2:=qOp_put F0 (Uy j oj F0 nr zj a9) (fun cs b=>mj i oi cs b hi) (fun cs b=>mj j oj cs b F0) hy h1;have pP:∀k ok,ops[k]?=Vv ok->k≠i->(listed.setIfInBounds j VR).getD k VR=VN ->
    (∀e∈ok.after,EV md e=VR->e.on≠i)->oi.apart ops ok=VR:=fun k ok hk aa pN hno=>by
   refine Uy k ok hk aa ?_ hno;by_cases hjk:j=k
   ·subst hjk;exact zj
   rw[ly VR hjk]at pN;exact pN
  refine qOp_mono (fun a' h3=>ih (listed.setIfInBounds j VR) a' (inv.set hj a7) pP (ix hr (Ne.symm nr)) h3.1 ?_) h2;rw[FA _ _ nr];exact h3.2
def ZY(h:gt:=by simp;omega):=h
def XN(h:gt:=by simp):=h
def oV(mj:GS ops=VR)(hs:Region.sinkB md ops n=VR)(hc:Region.chainB md ops n=VR)(hn:n<ops.size) :
  ∀(l:wy Oper) (k:Nat) (listed:Array Bool) (a:Act),(∀j,j<l.length->l[j]?=ops[k+j]?)->k+l.length=n->HeadInv md ops n listed ->
  Lw md ops g l.length k listed=VR->wpQuiet P ops C Lq l a ->
  iZ P md ops C n (fun a5 a'=>KK md ops g n a5=VR/\Lq a') l.length listed a
 |[],k,listed,a,_,hk,_,hB,h=>by
  have:k=n:=by simpa using hk
  subst this;exact⟨by simpa[Lw]using hB,h⟩
 |o :: l,k,listed,a,hl,hk,inv,hB,h=>by
  have h0:ops[k]?=Vv o:=by simpa using(hl 0 XN).symm
  simp only[cS,Lw,eh]at hB;obtain⟨⟨hr,hf⟩,a9⟩:=hB;have a7:k<n:=by simp only[cS]at hk;omega
  have a8:k∈BE md ops listed:=by simpa using hr
  have hst:qOp P ops C k (wpQuiet P ops C Lq l) a:=by unfold qOp;simp only[h0];exact h
  obtain⟨v,hy,hK⟩:=yieldsIn_of_qOp h0 hst;exact sw h0 (XS mj) hs hc hn a7 (fun a5 a' hL=>seqB_ready hL.1) l.length listed a inv (Region.free_spec h0 hf) a8 hy
   (oV mj hs hc hn l (k+1) _ _ (fun j hj=>by have:=hl (j+1) ZY;simpa[Nat.add_assoc,Nat.add_comm 1 j]using this) (by simp only[cS]at hk;omega) (inv.set a8 a7) a9 hK)
def TdV(h:gt:=by simpa using ht):=h
theorem kM(n:Nat)(hm:P.follows .mixedOrders=VR)(hB:Region.lexTailB .any l.toArray n=VR)(hC:C w.drew)
  (h:wpQuiet P l.toArray C (fun a'=>∀w',C w'->wpList P l.toArray Q (l.drop n) a' w') (l.take n) a):(Code.region id l.toArray VR).wp P Q a w:=by
 simp only[Region.lexTailB,eh,fk]at hB;obtain⟨⟨⟨⟨mj,hn⟩,hs⟩,hc⟩,a7⟩:=hB;have hn':n<l.length:=by simpa using hn
 have nt:(l.take n).length=n:=by simp;omega
 have CD:(l.drop n).length=l.toArray.size-n:=by simp
 have a5:HeadInv .any l.toArray n (GW l.toArray.size VN) :=
  ⟨XN,fun j oj _ hl=>(by rw[getD_replicate_false]at hl;cases hl),fun t _ ht=>getD_in TdV (getD_replicate_false _ _)⟩
 have H:=oV (C:=C) (md:=.any) (g:=l.toArray.size-n) mj hs hc hn (l.take n) 0 _ a (fun j hj=>by
  have a8:j<n:=by rw[nt]at hj;exact hj
  simp[a8]) (by simpa using nt) a5 (by rw[nt];exact a7) h
 refine wp_region_any hm ?_;have:=iN (Q':=Q) (g:=l.toArray.size-n) (fun listed a' w' a9 hL=>by
  have:=wpAny_of_seq (md:=.any) (Q':=Q) (l.drop n) n listed a' w' (fun j=>by simp[pk]) (by rw[CD];exact hL.1) (hL.2 w' a9);rwa[CD]at this) _ _ _ w.drew hC H
 rw[nt,show n+(l.toArray.size-n)=l.toArray.size by omega]at this;exact this
theorem il(n:Nat)(hm:P.follows .mixedOrders=VR)(hB:Region.lexTailB .any l.toArray n=VR)
  (h:wpQuiet P l.toArray (fun w'=>∃m,w'=w.drewN m) (fun a'=>∀w',(∃m,w'=w.drewN m)->wpList P l.toArray Q (l.drop n) a' w') (l.take n) a):(Code.region id l.toArray VR).wp P Q a w :=
 kM (C:=fun w'=>∃m,w'=w.drewN m) n hm hB ⟨1,rfl⟩ h
def nk(md:Region.Mode)(ops:Array Oper)(k n:Nat):Bool :=
 (FF n).all fun i=>V7 (i<k)||(FF (n+1)).any fun j=>V7 (i<j)&&NO md ops j i
def Ej(md:Region.Mode)(ops:Array Oper)(listed:Array Bool):Bool :=
 (FF ops.size).all fun j=>match ops[j]? with
  |some oj=>!listed.getD j VN||oj.after.all fun e=>!Region.binds md e||listed.getD e.on VN
  |none=>VR
def ES(listed:Array Bool)(k:Nat):Bool:=(FF k).all fun i=>listed.getD i VN
def AB(listed:Array Bool)(n m:Nat):Bool:=(FF m).all fun t=>V7 (t<n)||!listed.getD t VR
def zS(md:Region.Mode)(ops:Array Oper)(k n:Nat)(listed:Array Bool):Bool :=
 GS ops&&V7 (n<ops.size)&&V7 (k<=n)&&V7 (listed.size=ops.size)&&nk md ops k n&&Region.chainB md ops n&&Ej md ops listed&&ES listed k&&AB listed n ops.size&&Lw md ops (ops.size-n) (n-k) k listed
def yR(h:listed.getD i VN=VR):listed.getD i VR=VR:=by
 rcases mm i listed.size with h'|h'
 ·simp[h']at h ⊢;exact h
 simp[xp h']
def WQ(h:gt:=by omega):=h
def kH(hs:nk md ops k n=VR)(hc:Region.chainB md ops n=VR)(hn:n<ops.size)(inv:HeadInv md ops n listed)(hf:∀i,i<k->listed.getD i VR=VR) :
  ∀(d i:Nat),n-i=d->i<n->listed.getD i VR=VN->∀t,n<=t->t ∉ BE md ops listed:=by
 intro d;induction d using Nat.strongRecOn with
 |_ d ih =>
  intro i hd hi pN t ht hr;obtain⟨_,ot,a7,hall⟩:=mem_ready.1 hr;have UW:t<ops.size:=(F1.1 a7).1;have a9:¬i<k:=fun h=>by rw[hf i h]at pN;cases pN
  by_cases htn:t=n
  ·subst htn;have h1:=An.1 hs i (DP.2 hi);simp only[cN a9,nj]at h1;obtain⟨j,hj,a8⟩:=GP.1 h1;simp only[eh,fk]at a8;obtain⟨oj,F0,e,he,hb,a5⟩:=A5 a8.2;have Zz:j<=t:=by have:=DP.1 hj;omega
   by_cases ZA:j=t
   ·subst ZA;have:oj=ot:=gj (F0.symm.trans a7);subst this;have h2:=hall e he hb;rw[a5,getD_both pN]at h2;cases h2
   cases hl:listed.getD j VN with
   |true =>
    have h2:=inv.closed j oj F0 hl e he hb;rw[a5,getD_both pN]at h2;cases h2
   |false =>
    have ZB:j<listed.size:=by rw[inv.size];omega
    exact ih (t-j) WQ j lX WQ (getD_in ZB hl) t (bk _) hr
  have h1:=An.1 hc t (DP.2 UW);simp only[tG,fk]at h1;rcases h1 with h1|h1
  ·omega
  obtain⟨o',aa,e,he,hb,a5⟩:=A5 h1;have:o'=ot:=gj (aa.symm.trans a7);subst this;have h2:=hall e he hb;rw[a5,getD_both (inv.tail (t-1) WQ WQ)]at h2;cases h2
def sZ(hf:∀i,i<k->listed.getD i VR=VR):∀j,j<k->(listed.setIfInBounds i VR).getD j VR=VR:=fun j hj=>by
 by_cases hij:i=j
 ·subst hij;rcases mm i listed.size with h'|h'
  ·simp[h']
  simp[xp (show(listed.setIfInBounds i VR).size<=i by simpa using h')]
 rw[ly VR hij];exact hf j hj
theorem ma(hi:ops[i]?=Vv oi)(mj:∀(j:Nat) (o:Oper) cs b,ops[j]?=Vv o->o.op≠.select cs b)
  (hs:nk md ops k n=VR) (hc:Region.chainB md ops n=VR) (hn:n<ops.size) (a8:i<n)
  (a5:∀listed a,L listed a->∀j∈BE md ops listed,n<=j) :
  ∀(f:Nat) (listed:Array Bool) (a:Act),HeadInv md ops n listed->(∀i,i<k->listed.getD i VR=VR) ->
   (∀j oj,ops[j]?=Vv oj->j≠i->listed.getD j VR=VN->(∀e∈oj.after,EV md e=VR->e.on≠i)->oi.apart ops oj=VR) ->
   i∈BE md ops listed->YieldsIn P ops C oi v a ->
   iZ P md ops C n L f (listed.setIfInBounds i VR) (a.put oi.dst v)->iZ P md ops C n L (f+1) listed a:=by
 intro f;induction f with
 |zero =>
  intro listed a inv hf _ hr hy H;have pN:=(mem_ready.1 hr).1;refine⟨fun h=>Tdv,fun j hj=>?_⟩;have a7:j<n:=(mm j n).elim id fun h=>absurd hj (kH hs hc hn inv hf _ i lX a8 pN j h);refine⟨a7,?_⟩
  by_cases nr:j=i
  ·subst nr;exact hy.qOp hi H
  have:=a5 _ _ H j (ix hj nr);omega
 |succ f ih =>
  intro listed a inv hf Uy hr hy H;have pN:=(mem_ready.1 hr).1;refine⟨fun h=>Tdv,fun j hj=>?_⟩;have a7:j<n:=(mm j n).elim id fun h=>absurd hj (kH hs hc hn inv hf _ i lX a8 pN j h);refine⟨a7,?_⟩
  by_cases nr:j=i
  ·subst nr;exact hy.qOp hi H
  have h1:=(H.2 j (ix hj nr)).2;obtain⟨zj,oj,F0,hall⟩:=mem_ready.1 hj;have a9:∀e∈oj.after,EV md e=VR->e.on≠i:=fun e he hb heq=>by
   have h1:=hall e he hb;rw[heq,getD_both pN]at h1;cases h1
  have h2:=qOp_put F0 (Uy j oj F0 nr zj a9) (fun cs b=>mj i oi cs b hi) (fun cs b=>mj j oj cs b F0) hy h1;have pP:∀k ok,ops[k]?=Vv ok->k≠i->(listed.setIfInBounds j VR).getD k VR=VN ->
    (∀e∈ok.after,EV md e=VR->e.on≠i)->oi.apart ops ok=VR:=fun k ok hk aa pN hno=>by
   refine Uy k ok hk aa ?_ hno;by_cases hjk:j=k
   ·subst hjk;exact zj
   rw[ly VR hjk]at pN;exact pN
  refine qOp_mono (fun a' h3=>ih (listed.setIfInBounds j VR) a' (inv.set hj a7) (sZ hf) pP (ix hr (Ne.symm nr)) h3.1 ?_) h2;rw[FA _ _ nr];exact h3.2
def jH(mj:GS ops=VR)(hs:nk md ops k0 n=VR)(hc:Region.chainB md ops n=VR)(hn:n<ops.size) :
  ∀(l:wy Oper) (k:Nat) (listed:Array Bool) (a:Act),(∀j,j<l.length->l[j]?=ops[k+j]?)->k+l.length=n->HeadInv md ops n listed->(∀i,i<k0->listed.getD i VR=VR) ->
  Lw md ops g l.length k listed=VR->wpQuiet P ops C Lq l a ->
  iZ P md ops C n (fun a5 a'=>KK md ops g n a5=VR/\Lq a') l.length listed a
 |[],k,listed,a,_,hk,_,_,hB,h=>by
  have:k=n:=by simpa using hk
  subst this;exact⟨by simpa[Lw]using hB,h⟩
 |o :: l,k,listed,a,hl,hk,inv,hf0,hB,h=>by
  have h0:ops[k]?=Vv o:=by simpa using(hl 0 XN).symm
  simp only[cS,Lw,eh]at hB;obtain⟨⟨hr,hf⟩,a9⟩:=hB;have a7:k<n:=by simp only[cS]at hk;omega
  have a8:k∈BE md ops listed:=by simpa using hr
  have hst:qOp P ops C k (wpQuiet P ops C Lq l) a:=by unfold qOp;simp only[h0];exact h
  obtain⟨v,hy,hK⟩:=yieldsIn_of_qOp h0 hst;exact ma h0 (XS mj) hs hc hn a7 (fun a5 a' hL=>seqB_ready hL.1) l.length listed a inv hf0 (Region.free_spec h0 hf) a8 hy
   (jH mj hs hc hn l (k+1) _ _ (fun j hj=>by have:=hl (j+1) ZY;simpa[Nat.add_assoc,Nat.add_comm 1 j]using this) (by simp only[cS]at hk;omega) (inv.set a8 a7) (sZ hf0) a9 hK)
def zu(k n:Nat){listed:Array Bool}(hB:zS .any l.toArray k n listed=VR)(hC:C w)
  (h:wpQuiet P l.toArray C (fun a'=>∀w',C w'->wpList P l.toArray Q (l.drop n) a' w') ((l.take n).drop k) a):wpAny P .any l.toArray Q (l.length-k) listed a w:=by
 simp only[zS,eh,fk]at hB;obtain⟨⟨⟨⟨⟨⟨⟨⟨⟨mj,hn⟩,ab⟩,zc⟩,hs⟩,hc⟩,a7⟩,ZC⟩,pN⟩,a8⟩:=hB;have hn':n<l.length:=by simpa using hn
 have nt:((l.take n).drop k).length=n-k:=by simp;omega
 have CD:(l.drop n).length=l.toArray.size-n:=by simp
 have hf0:∀i,i<k->listed.getD i VR=VR:=fun i hi=>yR (An.1 ZC i (DP.2 hi))
 have a5:HeadInv .any l.toArray n listed:=by
  refine⟨zc,fun j oj hj hl e he hb=>?_,fun t ht a9=>?_⟩
  ·have h1:=An.1 a7 j (DP.2 (F1.1 hj).1);simp only[hj,hl,Bool.not_true,nj]at h1;have h2:=Array.all_eq_true_iff_forall_mem.1 h1 e he;simpa[hb]using h2
  have h1:=An.1 pN t (DP.2 a9);simp only[tG,fk,tz]at h1;rcases h1 with h1|h1
  ·omega
  exact h1
 have H:=jH (P:=P) (C:=C) (md:=.any) (k0:=k) (g:=l.toArray.size-n) mj hs hc hn ((l.take n).drop k) k listed a (fun j hj=>by
  have ae:j<n-k:=by rw[nt]at hj;exact hj
  simp[pk,show k+j<n by omega]) (by rw[nt];omega) a5 hf0 (by rw[nt];exact a8) h
 have:=iN (Q':=Q) (g:=l.toArray.size-n) (fun listed a' w' aa hL=>by
  have:=wpAny_of_seq (md:=.any) (Q':=Q) (l.drop n) n listed a' w' (fun j=>by simp[pk]) (by rw[CD];exact hL.1) (hL.2 w' aa);rwa[CD]at this) _ _ _ w hC H
 rw[nt,show n-k+(l.toArray.size-n)=l.length-k by simp;omega]at this;exact this
theorem lC{o:Oper}(x:Operand)(n:Nat)(hm:P.follows .mixedOrders=VR)(ho:o.op=.move x)(hg:o.guard=VX)
  (a5:(GS (o :: l).toArray&&Is .any (o :: l).toArray (GW (o :: l).toArray.size VN) 0&&(BE .any (o :: l).toArray (GW (o :: l).toArray.size VN)).contains 0)=VR)
  (hB:zS .any (o :: l).toArray 1 n ((GW (o :: l).toArray.size VN).setIfInBounds 0 VR)=VR)
  (a7:∀c (v:zY) a w,Q (.panic c) (a.put o.dst v) w->Q (.panic c) a w) (hC:C w.drew)
  (h:wpQuiet P (o :: l).toArray C (fun a'=>∀w',C w'->wpList P (o :: l).toArray Q ((o :: l).drop n) a' w') (((o :: l).take n).drop 1) (a.put o.dst (a.eval x))):(Code.region id (o :: l).toArray VR).wp P Q a w:=by
 simp only[eh]at a5;obtain⟨⟨h1,h2⟩,h3⟩:=a5;refine wp_region_any hm ?_;have hy:Yields P (o :: l).toArray o (a.eval x) a:=.inl ⟨by simp[Cd,hg],fun w=>by rw[BigFrame.run_move x ho]⟩;have H:=zu (P:=P) (C:=C) (Q:=Q) (w:=w.drew) 1 n hB hC h;exact wpAny_take (i:=0) (v:=a.eval x) (fuel:=l.length) XN h1 h2 h3 (fun c=>a7 c _) hy (by simpa using H)
def TdU(h:gt:=by rw[ha];exact h):=h
theorem uk{o:Oper}(n:Nat)(hm:P.follows .mixedOrders=VR)(ho:o.op=.move x)(hg:o.guard=VX)
  (a5:(GS (o :: l).toArray&&Is .any (o :: l).toArray (GW (o :: l).toArray.size VN) 0&&(BE .any (o :: l).toArray (GW (o :: l).toArray.size VN)).contains 0)=VR)
  (hB:zS .any (o :: l).toArray 1 n ((GW (o :: l).toArray.size VN).setIfInBounds 0 VR)=VR)
  (a7:∀c (v:zY) a w,Q (.panic c) (a.put o.dst v) w->Q (.panic c) a w) (ha:a.put o.dst (a.eval x)=a')
  (h:wpQuiet P (o :: l).toArray (fun w'=>∃m,w'=w.drewN m) (fun a'=>∀w',(∃m,w'=w.drewN m)->wpList P (o :: l).toArray Q ((o :: l).drop n) a' w') (((o :: l).take n).drop 1) a'):(Code.region id (o :: l).toArray VR).wp P Q a w :=
 lC (C:=fun w'=>∃m,w'=w.drewN m) x n hm ho hg a5 hB a7 ⟨1,rfl⟩ TdU
end
variable {P:Nat->zY->Prop}{a0 a1 a2 a3 a4 a5 a6 a7 a8 a9 ab:zY}{l:RH}
def aa{p:Prop} (h:p):Go.RowKit.Hid p:=h
def sv3    (h:∀(i:Nat) (z:zY),(a0::a1::a2::l)[i]?=Vv z->P i z):P 0 a0/\P 1 a1/\P 2 a2:=⟨h 0 _ lX,h 1 _ lX,h 2 _ lX⟩
def sv4    (h:∀(i:Nat) (z:zY),(a0::a1::a2::a3::l)[i]?=Vv z->P i z):P 0 a0/\P 1 a1/\P 2 a2/\P 3 a3:=⟨h 0 _ lX,h 1 _ lX,h 2 _ lX,h 3 _ lX⟩
def sv5    (h:∀(i:Nat) (z:zY),(a0::a1::a2::a3::a4::l)[i]?=Vv z->P i z):P 0 a0/\P 1 a1/\P 2 a2/\P 3 a3/\P 4 a4:=⟨h 0 _ lX,h 1 _ lX,h 2 _ lX,h 3 _ lX,h 4 _ lX⟩
def sv6    (h:∀(i:Nat) (z:zY),(a0::a1::a2::a3::a4::a5::l)[i]?=Vv z->P i z):P 0 a0/\P 1 a1/\P 2 a2/\P 3 a3/\P 4 a4/\P 5 a5:=⟨h 0 _ lX,h 1 _ lX,h 2 _ lX,h 3 _ lX,h 4 _ lX,h 5 _ lX⟩
def se    (h:∀(i:Nat) (z:zY),(a0::a1::a2::a3::a4::a5::a6::l)[i]?=Vv z->P i z):P 0 a0/\P 1 a1/\P 2 a2/\P 3 a3/\P 4 a4/\P 5 a5/\P 6 a6:=⟨h 0 _ lX,h 1 _ lX,h 2 _ lX,h 3 _ lX,h 4 _ lX,h 5 _ lX,h 6 _ lX⟩
def sv8    (h:∀(i:Nat) (z:zY),(a0::a1::a2::a3::a4::a5::a6::a7::l)[i]?=Vv z->P i z):P 0 a0/\P 1 a1/\P 2 a2/\P 3 a3/\P 4 a4/\P 5 a5/\P 6 a6/\P 7 a7:=⟨h 0 _ lX,h 1 _ lX,h 2 _ lX,h 3 _ lX,h 4 _ lX,h 5 _ lX,h 6 _ lX,h 7 _ lX⟩
def xr    (h:∀(i:Nat) (z:zY),(a0::a1::a2::a3::a4::a5::a6::a7::a8::l)[i]?=Vv z->P i z):P 0 a0/\P 1 a1/\P 2 a2/\P 3 a3/\P 4 a4/\P 5 a5/\P 6 a6/\P 7 a7/\P 8 a8:=⟨h 0 _ lX,h 1 _ lX,h 2 _ lX,h 3 _ lX,h 4 _ lX,h 5 _ lX,h 6 _ lX,h 7 _ lX,h 8 _ lX⟩
def IG    (h:∀(i:Nat) (z:zY),(a0::a1::a2::a3::a4::a5::a6::a7::a8::a9::l)[i]?=Vv z->P i z):P 0 a0/\P 1 a1/\P 2 a2/\P 3 a3/\P 4 a4/\P 5 a5/\P 6 a6/\P 7 a7/\P 8 a8/\P 9 a9:=⟨h 0 _ lX,h 1 _ lX,h 2 _ lX,h 3 _ lX,h 4 _ lX,h 5 _ lX,h 6 _ lX,h 7 _ lX,h 8 _ lX,h 9 _ lX⟩
def IC    (h:∀(i:Nat) (z:zY),(a0::a1::a2::a3::a4::a5::a6::a7::a8::a9::ab::l)[i]?=Vv z->P i z):P 0 a0/\P 1 a1/\P 2 a2/\P 3 a3/\P 4 a4/\P 5 a5/\P 6 a6/\P 7 a7/\P 8 a8/\P 9 a9/\P 10 ab:=⟨h 0 _ lX,h 1 _ lX,h 2 _ lX,h 3 _ lX,h 4 _ lX,h 5 _ lX,h 6 _ lX,h 7 _ lX,h 8 _ lX,h 9 _ lX,h 10 _ lX⟩
def IE  {aa:zY}  (h:∀(i:Nat) (z:zY),(a0::a1::a2::a3::a4::a5::a6::a7::a8::a9::ab::aa::l)[i]?=Vv z->P i z):P 0 a0/\P 1 a1/\P 2 a2/\P 3 a3/\P 4 a4/\P 5 a5/\P 6 a6/\P 7 a7/\P 8 a8/\P 9 a9/\P 10 ab/\P 11 aa:=⟨h 0 _ lX,h 1 _ lX,h 2 _ lX,h 3 _ lX,h 4 _ lX,h 5 _ lX,h 6 _ lX,h 7 _ lX,h 8 _ lX,h 9 _ lX,h 10 _ lX,h 11 _ lX⟩
open Go.RowKit
variable {a:Act}{w w' W:H7}{i l:RU}{v:zY}{B id B':Nat}{P:Program}{Q:N2}{α:Type}{ops:Array Oper}{rest:wy Oper}{q:H5}
def ah{a b:Bool}(h:a=b):Ending.returned (Ft a)=S6 (Ft b):=by rw[h]
def cz{k:IntKind}{a b:Int}(h:a=b):Ending.returned (Bm k a)=S6 (Bm k b):=by rw[h]
def aD{cs:Array zY}{t:TypeId}{i:Nat}(hb:b=w.1.size)(h:cs[i]?=Vv v):(w.alloc (Sx cs t)).cell? (b,i)=Vv v:=by
 subst hb;have:(w.alloc (Sx cs t)).1[w.1.size]?=Vv (Sx cs t (0,0)):=b9 w _;unfold AN;simp only[this];simpa using h
def mn{a b:H7}(h:Below a.1.size a b)(k:Below b.1.size b c):Below a.1.size a c:=h.trans (k.mono h.size)
def aT{a:H7}(h:Below B a w)(n:Nat):Below B a (w.drewN n):=⟨h.os,h.tape,h.output,h.size,h.block⟩
structure fo where
 d:Nat
 os:Array Obj
instance:Inhabited fo:=⟨⟨0,#[]⟩⟩
def ext(w:H7)(p:fo):H7:={ w with drawn:=p.d,heap:=w.1++p.os }
def dQ(w:H7)(p:fo):Below w.1.size w (ext w p) :=
 ⟨rfl,rfl,rfl,by simp[ext],fun k hk=>by simp[ext,Array.getElem?_append,hk]⟩
def jX(h:Below w.1.size w w'):∃p:fo,w'=ext w p:=by
 refine⟨⟨w'.drawn,w'.1.extract w.1.size w'.1.size⟩,?_⟩;have hh:w'.1=w.1++w'.1.extract w.1.size w'.1.size:=by
  apply Array.ext_getElem?;intro i;rw[Array.getElem?_append];split
  ·rename_i hi;exact h.block i hi
  rename_i hi;have:=h.size;rw[Array.getElem?_extract];by_cases h2:i<w'.1.size
  ·rw[aw WQ];congr 1;omega
  rw[bh WQ];exact xp WQ
 unfold ext;cases w'
 simp only[World.mk.injEq];exact⟨hh,h.tape,trivial,h.os,h.output⟩
def dY(h:∃p:fo,w'=ext w p):Below w.1.size w w':=by
 obtain⟨p,rfl⟩:=h;exact dQ w p
def aG{o:Nat}(hb:b<w.1.size)(h:w.cell? (b,o)=Vv v)(p:fo):(ext w p).cell? (b,o)=Vv v :=
 ((dQ w p).cell (p:=⟨b,o,VX⟩) hb).trans h
def Tdx(h:gt:=by simpa using h):=h
theorem aU{l:wy Oper}(hm:P.follows .mixedOrders=VR)(hB:Region.lexB .any l.toArray=VR)
  (h:wpQuiet P l.toArray (fun w'=>∃p:fo,w'=ext w p) (fun a'=>∀w',(∃p:fo,w'=ext w p)->Q .normal a' w') l a):(Code.region id l.toArray VR).wp P Q a w :=
 wp_region_quiet (C:=fun w'=>∃p:fo,w'=ext w p) hm hB (jX ((bj _ w).drew)) Tdx
theorem lG{o:Oper}{l:wy Oper}(n:Nat)(hm:P.follows .mixedOrders=VR)(ho:o.op=.move x)(hg:o.guard=VX)
  (a5:(GS (o :: l).toArray&&Is .any (o :: l).toArray (GW (o :: l).toArray.size VN) 0&&(BE .any (o :: l).toArray (GW (o :: l).toArray.size VN)).contains 0)=VR)
  (hB:zS .any (o :: l).toArray 1 n ((GW (o :: l).toArray.size VN).setIfInBounds 0 VR)=VR)
  (a7:∀c (v:zY) a w,Q (.panic c) (a.put o.dst v) w->Q (.panic c) a w) (ha:a.put o.dst (a.eval x)=a')
  (h:wpQuiet P (o :: l).toArray (fun w'=>∃p:fo,w'=ext w p) (fun a'=>∀w',(∃p:fo,w'=ext w p)->wpList P (o :: l).toArray Q ((o :: l).drop n) a' w') (((o :: l).take n).drop 1) a'):(Code.region id (o :: l).toArray VR).wp P Q a w :=
 lC (C:=fun w'=>∃p:fo,w'=ext w p) x n hm ho hg a5 hB a7 (jX ((bj _ w).drew)) TdU
def iH{f:FuncId}{args:Array zY}{p:fo}
  (h:Calls P f args (ext w p) fun e w'=>e=S6 v/\Below (ext w p).1.size (ext w p) w'):Calls P f args (ext w p) fun e a5=>e=S6 v/\∃p:fo,a5=ext w p :=
 h.mono fun _ _ ⟨he,hb⟩=>⟨he,jX (mn (dQ w p) hb)⟩
def ru(w:H7)(b off:Nat)(l:RU):Prop :=
 ∀(i:Nat) (p:H5),l[i]?=Vv p->w.cell? (b,off+i*2)=Vv (Bm Sj p.1)/\w.cell? (b,off+i*2+1)=Vv (Bm Sj p.2)
def De(l:wy α)(k:Nat)(h:k<l.length):∃x,l[k]?=Vv x:=⟨l[k],lO h⟩
def xo(w:H7)(v:zY)(l:RU):Prop :=
 ∃p cap,v=FG p l.length cap/\l.length<=cap/\cap<=9223372036854775807/\(0<l.length->∃b off,p=Vv ⟨b,off,VX⟩/\b<w.1.size/\ru w b off l)
def bU:RU->RH
 |[]=>[]
 |p :: l=>Bm Sj p.1 :: Bm Sj p.2 :: bU l
def bM(w:H7)(B:Nat)(v:zY)(l:RU):Prop:=w.ownsRow B 49 2 v l.length (bU l)
def gJ(a b:RU):bU (a++b)=bU a++bU b:=by
 induction a with
 |nil=>rfl
 |cons p a ih=>simp[bU,ih]
def dx(a:RU):(bU a).length=a.length*2:=by
 induction a with
 |nil=>rfl
 |cons p a ih=>simp[bU,ih];omega
def kr(l:RU):∀(i:Nat) (p:H5),l[i]?=Vv p->(bU l)[i*2]?=Vv (Bm Sj p.1)/\(bU l)[i*2+1]?=Vv (Bm Sj p.2):=by
 induction l with
 |nil=>intro i p h;simp at h
 |cons q l ih =>
  intro i p h;cases i with
  |zero=>simp at h;subst h;simp[bU]
  |succ i =>
   have:=ih i p Tdx;rw[show(i+1)*2=i*2+1+1 from by omega];simpa[bU]using this
def qI(l:RU):∀u∈bU l,u.oneCell'=VR:=by
 induction l with
 |nil=>intro u h;cases h
 |cons p l ih =>
  intro u h;simp[bU]at h;rcases h with rfl|rfl|h
  ·rfl
  ·rfl
  exact ih u h
def TcF(h:gt:=by
 exact⟨VX,0,by rw[hn],WQ,WQ,fun h=>absurd h WQ⟩):=h
def Tds(h:gt:=by unfold maxLen at hcm;omega):=h
def bM.rd(h:bM w B v l):xo w v l:=by
 obtain⟨h1,h2⟩:=h;rcases h2 with⟨rfl,hn⟩|⟨g,cap,a5,rfl,hb,hg,vr,hcm,a7,ht⟩
 ·exact TcF
 refine⟨Vv ⟨g,0,VX⟩,cap,rfl,vr,Tds,fun _=>⟨g,0,rfl,(F1.1 hg).1,fun i p hp=>?_⟩⟩;have hc:=kr l i p hp;have a8:i<l.length:=(AT.1 hp).1;rw[<- ht]at hc;rw[ri WQ,ri WQ]at hc;refine⟨?_,?_⟩
 ·rw[cell_of_row w g (0+i*2) a5 _ (0,0) hg,eJ];simpa using hc.1
 rw[cell_of_row w g (0+i*2+1) a5 _ (0,0) hg,eJ];simpa using hc.2
def ru.below(hb:Below W.1.size W w)(hbl:b<W.1.size)(h:ru W b off l):ru w b off l:=fun i p hp=>by
 have:=h i p hp;rw[hb.cell (p:=⟨b,off+i*2,VX⟩) hbl,hb.cell (p:=⟨b,off+i*2+1,VX⟩) hbl];exact this
def TbJ(h:gt:=by
 obtain⟨p,cap,hv,hl,hc,hp⟩:=h;exact⟨p,cap,hv,hl,hc,fun h0=>by obtain⟨b,off,e,hbl,hcc⟩:=hp h0;exact⟨b,off,e,cC hbl hb.size,hcc.below hb hbl⟩⟩):=h
def xo.below(h:xo W v l)(hb:Below W.1.size W w):xo w v l:=by
 exact TbJ
def Tby(h:gt:=by
 obtain⟨h1,h2⟩:=h;refine⟨h1,?_⟩;rcases h2 with hn|⟨g,cap,cur,hv,pC,hg,r⟩
 ·exact .inl hn
 exact .inr ⟨g,cap,cur,hv,pC,by rw[hb.block g (Array.getElem?_eq_some_iff.1 hg).1];exact hg,r⟩):=h
def bM.below(h:bM W B v l)(hb:Below W.1.size W w):bM w B v l:=by
 exact Tby
def bM.nil(w:H7)(B:Nat):bM w B (FG VX 0 0) []:=gS w B _ 2
def TcY(h:gt:=by
 rcases h2 with hn|⟨g,cap,cur,hv,pC,r⟩
 ·exact .inl hn
 exact .inr ⟨g,cap,cur,hv,WQ,r⟩):=h
def TbS(h:gt:=by
 obtain⟨h1,h2⟩:=h;refine⟨h1,?_⟩;exact TcY):=h
def bM.mono(h:bM w B v l)(hB:B'<=B):bM w B' v l:=by
 exact TbS
def xo.nil(w:H7):xo w (FG VX 0 0) []:=⟨VX,0,rfl,XN,WQ,fun h=>absurd h XN⟩
def ig(w:H7)(b off:Nat)(l:PI):Prop:=∀(i:Nat) (n:Int),l[i]?=Vv n->w.cell? (b,off+i)=Vv (Bm Sj n)
def Hs(w:H7)(v:zY)(l:PI):Prop :=
 ∃p cap,v=FG p l.length cap/\l.length<=cap/\cap<=9223372036854775807/\(0<l.length->∃b off,p=Vv ⟨b,off,VX⟩/\b<w.1.size/\ig w b off l)
def eG(w:H7)(B:Nat)(v:zY)(l:PI):Prop:=w.ownsRow B 3 1 v l.length (l.map (Bm Sj))
def eG.rd{l:PI}(h:eG w B v l):Hs w v l:=by
 obtain⟨h1,h2⟩:=h;rcases h2 with⟨rfl,hn⟩|⟨g,cap,a5,rfl,hb,hg,vr,hcm,a7,ht⟩
 ·exact TcF
 refine⟨Vv ⟨g,0,VX⟩,cap,rfl,vr,Tds,fun _=>⟨g,0,rfl,(F1.1 hg).1,fun i p hp=>?_⟩⟩;have a8:i<l.length:=(AT.1 hp).1;have hc:(l.map (Bm Sj))[i]?=Vv (Bm Sj p):=by simp[hp]
 rw[<- ht,ri WQ]at hc;rw[cell_of_row w g (0+i) a5 _ (0,0) hg,eJ];simpa using hc
def ig.below(hb:Below W.1.size W w){l:PI}(hbl:b<W.1.size)(h:ig W b off l):ig w b off l:=fun i p hp=>by
 rw[hb.cell (p:=⟨b,off+i,VX⟩) hbl];exact h i p hp
def Hs.below{l:PI}(h:Hs W v l)(hb:Below W.1.size W w):Hs w v l:=by
 exact TbJ
def eG.below{l:PI}(h:eG W B v l)(hb:Below W.1.size W w):eG w B v l:=by
 exact Tby
def eG.mono{l:PI}(h:eG w B v l)(hB:B'<=B):eG w B' v l:=by
 exact TbS
def eG.nil(w:H7)(B:Nat):eG w B (FG VX 0 0) []:=gS w B _ 1
def Hs.nil(w:H7):Hs w (FG VX 0 0) []:=⟨VX,0,rfl,XN,WQ,fun h=>absurd h XN⟩
def DT:(prog.info? 49).map (fun i=>(i.zero,i.size,i.bytes))=Vv (Vv (Tk #[Bm Sj 0,Bm Sj 0]),2,16):=by kernel_rfl
def tZ:(prog.info? 3).map (fun i=>(i.zero,i.size,i.bytes))=Vv (Vv (Bm Sj 0),1,8):=by kernel_rfl
def YR(h:gt:=by decide):=h
def Tdh(h:gt:=by unfold maxLen;omega):=h
def jg{o:Oper}(a7:o.guard=VX)
  (ho:o.op=.call { callee:=.builtin .append,args:=#[s,x],argTypes:=#[92,92] })
  (B:Nat) {v:zY} (l:RU) (p:H5) (hs:a.eval s=v) (a5:bM w B v l) (g c:Nat) (hx:a.eval x=FG (Vv g) 1 c)
  (a8:w.cell? g=Vv (Bm Sj p.1)) (a9:w.cell? (XM g 1)=Vv (Bm Sj p.2)) (hl:l.length<=100000000) (hB:B<=w.1.size)
  (h:∀v' w',bM w' B v' (l++[p])->Below B w w'->w.grownBy w' v.ownBlock->wpList prog ops Q rest (a.put o.dst v') w'):wpList prog ops Q (o :: rest) a w:=by
 obtain⟨i0,hi,du,R0,RC⟩:=gg DT;refine tE w a7 s x 92 ho B 49 i0 _ 2 16 underlying92 hi du R0 RC lX YR v l.length (bU l) hs a5 ⟨g,0,VX⟩ 1 c (bU [p]) hx lX (fun j u hu=>?_) (qI _) Tdh WQ hB (fun v' w' aa hg _=>?_)
 ·rw[iz,eJ]
  match j,hu with
  |0,hu=>simp[bU]at hu;rw[<- hu];exact a8
  |1,hu=>simp[bU]at hu;rw[<- hu];exact a9
  |j+2,hu=>simp[bU]at hu
 refine h v' w' ?_ ((bj B w).grown hg hB (fun k hk=>(a5.lt k hk).1)) hg;unfold bM;rw[gJ,cD];exact aa
def ve{o:Oper}(a7:o.guard=VX)
  (ho:o.op=.call { callee:=.builtin .append,args:=#[s,x],argTypes:=#[22,22] })
  (B:Nat) {v:zY} (l:PI) (p q:Int) (hs:a.eval s=v) (a5:eG w B v l) (g c:Nat) (hx:a.eval x=FG (Vv g) 2 c)
  (a8:w.cell? g=Vv (Bm Sj p)) (a9:w.cell? (XM g 1)=Vv (Bm Sj q)) (hl:l.length<=100000000) (hB:B<=w.1.size)
  (h:∀v' w',eG w' B v' (l++[p,q])->Below B w w'->wpList prog ops Q rest (a.put o.dst v') w'):wpList prog ops Q (o :: rest) a w:=by
 obtain⟨i0,hi,du,R0,RC⟩:=gg tZ;refine tE w a7 s x 22 ho B 3 i0 _ 1 8 underlying22 hi du R0 RC lX YR v l.length (l.map (Bm Sj)) hs a5 ⟨g,0,VX⟩ 2 c [Bm Sj p,Bm Sj q] hx lX (fun j u hu=>?_) (fun u hu=>by simp at hu;rcases hu with rfl|rfl<;>rfl) Tdh WQ hB (fun v' w' aa hg _=>?_)
 ·rw[iz,eJ]
  match j,hu with
  |0,hu=>simp at hu;rw[<- hu];exact a8
  |1,hu=>simp at hu;rw[<- hu];exact a9
  |j+2,hu=>simp at hu
 refine h v' w' ?_ ((bj B w).grown hg hB (fun k hk=>(a5.lt k hk).1));unfold eG;rw[gl,cD];exact aa
def bM.last(h:bM w B v (i++[q])) :
  ∃g cap,v=FG (Vv ⟨g,0,VX⟩) (i.length+1) cap/\B<=g/\g<w.1.size/\i.length+1<=cap/\cap<=9223372036854775807 /\
   w.cell? (g,i.length*2)=Vv (Bm Sj q.1)/\w.cell? (g,i.length*2+1)=Vv (Bm Sj q.2)/\w.frozen? (g,i.length*2+1)=VN /\
   ∀z:Int,bM (w.setCell (g,i.length*2+1) (Bm Sj z)) B v (i++[(q.1,z)]):=by
 have hl:(i++[q]).length=i.length+1:=by simp
 unfold bM at h;rw[hl]at h;rcases h.2 with⟨_,hn⟩|⟨g,cap,a5,rfl,hb,hg,vr,hcm,a7,ht⟩
 ·omega
 have QE:=kr (i++[q]) i.length q XN;refine⟨g,cap,rfl,hb,(F1.1 hg).1,vr,Tds,?_,?_,h.frozenAt _,fun z=>?_⟩
 ·rw[h.cellAt _ WQ];exact QE.1
 ·rw[h.cellAt _ WQ];exact QE.2
 have h2:=(h.stored (i.length*2+1) (Bm Sj z)).1;unfold bM;rw[show(i++[(q.1,z)]).length=i.length+1 from by simp];have e:(bU (i++[q])).set (i.length*2+1) (Bm Sj z)=bU (i++[(q.1,z)]):=by
  rw[gJ,gJ,List.set_append_right _ _ (by rw[dx];omega),dx,show i.length*2+1-i.length*2=1 from by omega];rfl
 rw[e]at h2;exact h2
def bM.setLast{g n:Nat}(h:bM w B (FG (Vv g) n cap) (i++[q]))(z:Int) :
  bM (w.setCell (g,i.length*2+1) (Bm Sj z)) B (FG (Vv g) n cap) (i++[(q.1,z)]):=by
 obtain⟨g',a5,e,_,_,_,_,_,_,_,hst⟩:=h.last;cases e
 exact hst z
def aj(l:wy α)(k:Nat)(h:k<l.length):∃x,l[k]?=Vv x:=⟨l[k],lO h⟩
def take_snoc'(l:wy α)(k:Nat)(x:α)(h:l[k]?=Vv x):l.take (k+1)=l.take k++[x]:=by
 obtain⟨hk,rfl⟩:=AT.1 h;exact af1 hk
def nT(s l:Int):Bool:=V7 (0<=s)&&V7 (0<=l)&&V7 (s<=1073741824)&&V7 (l<=1073741824-s)
def dI(l:RU):Bool:=l.all fun p=>nT p.1 p.2
def ai  {o:Nat}  (hb:w'.1[b]?=w.1[b]?) (h:w.cell? (b,o)=Vv v):w'.cell? (b,o)=Vv v:=(cd (a:=⟨b,o,VX⟩) hb).trans h
def bK  {o:Nat}  (hb:w'.1[b]?=w.1[b]?) (h:w.cell? (b,o+0)=Vv v):w'.cell? (b,o)=Vv v:=(cd (a:=⟨b,o,VX⟩) hb).trans h
open Go.ChangeShapes Go.WideShapes Go.ChangeAt
variable {H α:Type}{W a w w' w1 w2:H7}{n B i sz bs bb k d nb ki N:Nat}{v nv vv:zY}{p:Addr}{F G ok' X:LN}{cs:Array zY}{t:TypeId}{z:Int}{xs:RH}
def Tryz.laidOut:laidOutB prog=VR:=by kernel_rfl
def lJ{enc:TypeId × zY->H}(hb:Below W.1.size W W'):∀(ts:wy TypeId) (vs:RH) (ds:wy (DataW H)) (ps:wy MemPlace),
  DataW.TrodAll enc prog W 0 (fun _=>VR) VR ts vs ds ps->(∀t∈ts,prog.readableRec t=VR/\t<prog.types.size)->(∀x∈ps,x.block<W.1.size) ->
  DataW.TrodAll enc prog W' 0 (fun b=>V7 (b<W.1.size)) VR ts vs ds ps
 |[],vs,ds,ps,h,_,_=>by
  obtain⟨rfl,rfl,rfl⟩:=trodAll_nil h;exact trodAll_mk0
 |t :: ts,vs,ds,ps,h,ht,hlt=>by
  obtain⟨v,a5,d,a7,p,q,rfl,rfl,rfl,h1,h2⟩:=trodAll_cons h;obtain⟨ha,a8⟩:=ht t XN;exact trodAll_cons_mk (Below.trod Tryz.laidOut ha a8 h1 hb (fun x hx=>hlt x (by simp[hx]))) (lJ hb ts a5 a7 q h2 (fun t' h'=>ht t' (by simp[h'])) (fun x hx=>hlt x (by simp[hx])))
def wf_i64{n:Int}(h:(Lit.int Sj n).wf=VR):-9223372036854775808<=n/\n<=9223372036854775807:=by
 have h1:IntKind.i64.min=-9223372036854775808:=rfl;have h2:IntKind.i64.max=9223372036854775807:=rfl;simp[Lit.wf,h1,h2]at h;exact h
def TdW(h:gt:=by simpa using h0):=h
def Yp(h:gt:=by kernel_rfl):=h
def Fw{enc:TypeId × zY->H}{d:DataW H}{p:wy MemPlace}(hv:Value.okWide prog W .any base 22 v)
  (h:DataW.Trod enc prog W 0 (fun _=>VR) VR 22 v d p) :
  ∃l,Hs W v l/\∀q∈l,-9223372036854775808<=q/\q<=9223372036854775807:=by
 obtain⟨a0,a5,a8,rfl⟩:=okWide_slice underlying22 hv;obtain⟨fuel,hf⟩:=h;rcases Go.Deep.open_slice1 underlying22 Yp hf with⟨a7,_⟩|⟨a,len,cap,m,n,V,D,Pl,a7,_,hl,hm,ZE,_,hi⟩
 ·simp[Value.cells]at a7;obtain⟨rfl,rfl,rfl⟩:=a7;exact⟨[],Hs.nil W,XN⟩
 simp[Value.cells]at a7;obtain⟨rfl,rfl,rfl⟩:=a7;simp only[ej]at ZE;have key:∀i,i<a5->∃q:Int,W.cell? (a.add i)=Vv (Bm Sj q)/\-9223372036854775808<=q/\q<=9223372036854775807:=fun i a9=>by
  obtain⟨c0,t0⟩:=hi i WQ;obtain⟨x,e0,_,w0⟩:=DataW.trod_int underlying3 t0;simp only[rp,and_true]at e0;rw[e0]at c0;exact⟨x,c0,wf_i64 w0⟩
 obtain⟨q,hq⟩:=Go.Deep.choose_lt key;refine⟨(FF a5).map q,⟨Vv a,a8,XN,by simpa using hl,by unfold maxLen at hm;omega,fun h0=>?_⟩,fun r hr=>?_⟩
 ·obtain⟨b,off,aa⟩:=a;have ab:=(hq 0 TdW).1;have hs:aa=VX:=by simpa[Addr.add]using World.cell?_spot ab
  subst hs;refine⟨b,off,rfl,cP W _ ab,fun i p hp=>?_⟩;have a9:i<a5:=by simpa using(AT.1 hp).1
  have ae:q i=p:=by simpa[a9]using hp
  have hh:=hq i a9;rw[ae,iz]at hh;exact hh.1
 rw[As]at hr;obtain⟨i,hi',rfl⟩:=hr;exact(hq i (DP.1 hi')).2
structure cR(F:LN)(w w':H7):Prop where
 os:w'.os=w.os
 tape:w'.tape=w.tape
 output:w'.output=w.output
 size:w.heap.size<=w'.heap.size
 block:∀k,k<w.heap.size->¬F k->w'.heap[k]?=w.heap[k]?
def cR.refl(F:LN)(w:H7):cR F w w:=⟨rfl,rfl,rfl,bk _,fun _ _ _=>rfl⟩
def cR.trans{b:H7}(h:cR F a b)(k:cR G b c)(hG:∀i,G i->F i\/a.1.size<=i):cR F a c :=
 ⟨k.os.trans h.os,k.tape.trans h.tape,k.output.trans h.output,cA h.size k.size,fun i hi hF=>(k.block i (cC hi h.size) (fun g=>(hG i g).elim hF WQ)).trans (h.block i hi hF)⟩
def cR.of_below{b:H7}(h:Below a.1.size a b):cR F a b:=⟨h.os,h.tape,h.output,h.size,fun i hi _=>h.block i hi⟩
def cR.cell(h:cR F w w')(hp:p.block<w.1.size)(hF:¬F p.block):w'.cell? p=w.cell? p:=cd (w:=w) (h.block p.block hp hF)
def Tdi(h:gt:=by simp[World.setCell]):=h
def cR.setCell(h:cR F a w)(hp:F p.block\/a.1.size<=p.block)(u:zY):cR F a (w.setCell p u) :=
 h.trans (G:=fun k=>k=p.block) ⟨rfl,rfl,rfl,Tdi,fun k _ hne=>bw _ _ _ _ hne⟩ (fun i e=>by subst e;exact hp)
def cR.drewN(h:cR F a w)(n:Nat):cR F a (w.drewN n):=⟨h.os,h.tape,h.output,h.size,h.block⟩
def cR.below(h:cR F w w')(hB:B<=w.1.size)(hF:∀k,F k->B<=k):Below B w w' :=
 ⟨h.os,h.tape,h.output,h.size,fun k hk=>h.block k WQ (fun f=>by have:=hF k f;omega)⟩
def cR.mono(h:cR F w w')(ZF:∀k,F k->G k):cR G w w':=⟨h.os,h.tape,h.output,h.size,fun k hk hn=>h.block k hk (fun f=>hn (ZF k f))⟩
def Tex(h:gt:=by simpa using hlt):=h
def block_setCell{z:Nat × Nat}(u:zY)(h:w.1[b]?=Vv (Sx cs t z)):(w.setCell (b,i) u).1[b]?=Vv (Sx (cs.setIfInBounds i u) t z):=by
 have hlt:=aq h;have h':w.1[b]=Sx cs t z:=by simpa[aa0 hlt]using h
 show(w.1.modify b _)[b]?=_;rw[aa0 Tex,Array.getElem_modify_self,h'];rfl
def Dq(w:H7)(b:Nat)(l:PI)(k:Nat):Prop :=
 ∃p cap,w.1[b]?=Vv (Sx #[FG p l.length cap,Bm Sj k] 60 (0,0))/\k<=l.length/\l.length<=1000/\l.length<=cap/\cap<=9223372036854775807 /\
  (∀x∈l,-9223372036854775808<=x/\x<=9223372036854775807)/\(0<l.length->∃g off,p=Vv ⟨g,off,VX⟩/\g<b/\ig w g off l)
def Src(w:H7)(b:Nat):Prop:=∃l k,Dq w b l k
def CZ(lo hi:Int)(b:Nat)(w:H7)(e:Ending)(w':H7):Prop:=∃v:Int,e=S6 (Bm Sj v)/\lo<=v/\v<=hi/\(∃l k,Dq w' b l k)/\cR (fun i=>i=b) w w'
def EB(b k:Nat)(l:PI){w:H7}(h:Dq w b l k):Calls prog 41 #[SL (Vv b)] w (CZ (-9223372036854775808) 9223372036854775807 b w):=by
 obtain⟨p,cap,hb,hk,hl,a5,ij,hi,hp⟩:=h;have hc0:=cr hb 0 _ lX;have a8:=cr hb 1 _ lX;have a9:w.frozen? (XM b 1)=VN:=by simp[BT,hb]
 have gO:b<w.1.size:=aq hb;replace hb:=aa hb;replace hp:=aa hp;replace hi:=aa hi;by_cases hlt:k<l.length
 ·obtain⟨g,off,rfl,hgb,hc⟩:=hp.o WQ;have hg:g<w.1.size:=by omega
  have a7:g≠b:=by omega
  obtain⟨x,hx⟩:=aj l k hlt;have ab:=hc k x hx;replace hx:=aa hx;replace hc:=aa hc;have hd:V7 (l.length<=k)=VN:=by simp;omega
  go_enter func41,ntmps41;go_wp2;go_quiet (fail);go_wp2;go_quiet (fail);go_wp2;go_ret;have QF:=hi.o x (ct hx.o);refine⟨x,rfl,QF.1,QF.2,⟨l,k+1,Vv ⟨g,off,VX⟩,cap,?_,WQ,hl,a5,ij,hi.o,fun _=>⟨g,off,rfl,hgb,fun i n hn=>?_⟩⟩,?_⟩
  ·exact block_setCell (w:=w.drewN _) (cs:=#[_,(k:Int)]) (i:=1) _ hb.o
  ·exact(cd (w:=w) (bw _ _ _ _ a7)).trans (hc.o i n hn)
  exact(((cR.refl (fun i=>i=b) w).drewN _).setCell (p:=⟨b,1,VX⟩) (.inl lX) _).drewN _
 have hd:V7 (l.length<=k)=VR:=by simp;omega
 go_enter func41,ntmps41;go_wp2;go_quiet (fail);go_wp2;go_ret;exact⟨0,rfl,WQ,WQ,⟨l,k,p,cap,hb.o,hk,hl,a5,ij,hi.o,hp.o⟩,(cR.refl _ w).drewN _⟩
def bY(b:Nat)(n:Int)(w:H7)(hn1:1<=n)(hn2:n<=1000000)(h:Src w b):Calls prog 12 #[SL (Vv b),Bm Sj n] w (CZ 0 (n-1) b w):=by
 obtain⟨l,k,h⟩:=h;go_enter func12,ntmps12
 go_wp2_with fail;refine(EB b k l h).mono ?_;rintro e w1 ⟨v,rfl,a5,a7,hs,hm⟩;have a8:=Int.tmod_lt_of_pos v (show 0<n by omega);have a9:=Int.lt_tmod_of_pos v (show 0<n by omega);go_wp2
 all_goals
  go_ret;refine⟨_,rfl,?_,?_,hs,hm⟩<;>omega
def bO(b:Nat)(lo hi:Int)(w:H7)(h1:0<=lo)(h2:lo<=hi)(h3:hi<=100000)(h:Src w b):Calls prog 15 #[SL (Vv b),Bm Sj lo,Bm Sj hi] w (CZ lo hi b w):=by
 go_enter func15,ntmps15
 go_wp2_with fail;refine(bY b _ _ WQ WQ h).mono ?_;rintro e w1 ⟨v,rfl,a5,a7,hs,hm⟩;go_wp2;go_ret;exact⟨_,rfl,WQ,WQ,hs,hm⟩
def Fy(l:PI)(b:Nat)(w:H7)(e:Ending)(w':H7):Prop:=∃v:Int,e=S6 (Bm Sj v)/\v∈l/\Src w' b/\cR (fun i=>i=b) w w'
def jD(b g cap:Nat)(l:PI){w:H7}(h0:0<l.length)(h1:l.length<=1000)(a5:l.length<=cap)(a7:cap<=9223372036854775807)(hg:g<w.1.size)(hgb:g≠b)(hc:ig w g 0 l)(h:Src w b):Calls prog 13 #[SL (Vv b),FG (Vv g) l.length cap] w (Fy l b w):=by
 replace hc:=aa hc;go_enter func13,ntmps13
 go_wp2_with fail;refine(bY b _ _ WQ WQ h).mono ?_;rintro e w1 ⟨v,rfl,a8,a9,hs,hm⟩;obtain⟨k,rfl⟩:=D4 a8;obtain⟨x,hx⟩:=aj l k WQ;have ab:w1.cell? (g,k)=Vv (Bm Sj x):=by
  rw[hm.cell hg hgb];simpa using hc.o k x hx
 replace hx:=aa hx;have ae:k<l.length:=by omega
 go_wp2;go_ret;exact⟨x,rfl,ct hx.o,hs,hm⟩
def ED(l:PI)(v:zY)(w:H7)(h:Hs w v l)(hl:∀x∈l,-9223372036854775808<=x/\x<=9223372036854775807):Calls prog 4 #[v] w fun e w'=>e=S6 (SL (Vv w.1.size))/\Src w' w.1.size/\w.1.size<w'.1.size/\Below w.1.size w w':=by
 obtain⟨p,cap,rfl,a5,ij,hp⟩:=h;replace hp:=aa hp;replace hl:=aa hl;by_cases hlt:1000<l.length
 ·obtain⟨g,off,rfl,hg,hc⟩:=hp.o WQ;replace hc:=aa hc;have a7:¬cap=1000:=by omega
  have kB:1000<=cap:=by omega
  go_enter func4,ntmps4;go_wp2;go_ret;refine⟨rfl,⟨l.take 1000,0,Vv ⟨g,off,VX⟩,cap,?_,WQ,ZY,ZY,ij,fun x hx=>hl.o x (tR hx),fun _=>⟨g,off,rfl,hg,fun i n hn=>?_⟩⟩,XN,?_⟩
  ·rw[b9,ey,Nat.min_eq_left WQ];rfl
  ·have hi:i<1000:=by have:=(AT.1 hn).1;simp at this;omega
   rw[ri hi]at hn;exact(cd (w:=w) (cj _ _ _ hg)).trans (hc.o i n hn)
  exact(bj _ _).alloc (bk _) _
 go_enter func4,ntmps4
 go_wp2;go_ret;refine⟨rfl,⟨l,0,p,cap,?_,WQ,WQ,a5,ij,hl.o,fun h0=>?_⟩,XN,?_⟩
 ·rw[b9];rfl
 ·obtain⟨g,off,e,hg,hc⟩:=hp.o h0;exact⟨g,off,e,hg,fun i n hn=>(cd (w:=w) (cj _ _ _ hg)).trans (hc i n hn)⟩
 exact(bj _ _).alloc (bk _) _
def Src.keep(h:Src w b)(hk:∀i,i<=b->w'.1[i]?=w.1[i]?):Src w' b:=by
 obtain⟨l,k,p,cap,hb,h1,h2,h3,h4,h5,hp⟩:=h;refine⟨l,k,p,cap,(hk b (bk _)).trans hb,h1,h2,h3,h4,h5,fun h0=>?_⟩;obtain⟨g,off,e,hg,hc⟩:=hp h0;exact⟨g,off,e,hg,fun i n hn=>(cd (w:=w) (hk g WQ)).trans (hc i n hn)⟩
def Src.lt(h:Src w b):b<w.1.size:=by
 obtain⟨l,k,p,cap,hb,_⟩:=h;exact aq hb
structure aR where
 vol:Bool
 on:H6
 start:Int
structure aB where
 start:Int
 length:Int
 kind:Int
 Ga:wy aR
 chunk:Int
 stale:PI
 log:H6
 pool:H6
 device:Int
 mode:Int
 done:Int
structure ay where
 name:H6
 id:Int
 hidden:Bool
 ro:Bool
 tags:QN
 Gf:wy aB
structure az where
 name:H6
 id:Int
 first:Int
 Gc:Int
 closed:Bool
 missing:Bool
 tags:QN
structure af where
 name:H6
 id:Int
 seq:Int
 Gd:Int
 next:Int
 tags:QN
 Gb:wy az
 F9:wy ay
 history:wy (H6 × H5)
abbrev jx(α:Type):=(Nat->Prop)->H7->RH->α->Prop
def oh{α:Type}(V:jx α)(sz:Nat)(ok:LN)(w:H7)(b off:Nat)(l:wy α):Prop :=
 ∀(i:Nat) (x:α),l[i]?=Vv x->∃u:RH,u.length=sz/\V ok w u x/\∀(j:Nat) (z:zY),u[j]?=Vv z->w.cell? (b,off+i*sz+j)=Vv z
def ck{α:Type}(V:jx α)(sz:Nat):jx (wy α):=fun ok w vs l =>
 ∃p cap,vs=[FG p l.length cap]/\l.length<=cap/\cap<=9223372036854775807/\(0<l.length->∃b off,p=Vv ⟨b,off,VX⟩/\b<w.1.size/\ok b/\oh V sz ok w b off l)
def cO:jx Int:=fun _ _ vs x=>vs=[Bm Sj x]
def aF:jx H6:=fun _ _ vs x=>vs=[By x]
def aQ:jx aR:=fun _ _ vs x=>vs=[Ft x.vol,By x.on,Bm Sj x.start]
def bC:jx aB:=fun ok w vs x=>∃a s,vs=[Bm Sj x.start,Bm Sj x.length,Bm Sj x.kind,a,Bm Sj x.chunk,s,By x.log,By x.pool,Bm Sj x.device,Bm Sj x.mode,Bm Sj x.done] /\
 ck aQ 3 ok w [a] x.Ga/\ck cO 1 ok w [s] x.stale
def aN:jx ay:=fun ok w vs x=>∃t s,vs=[By x.name,Bm U8 x.id,Ft x.hidden,Ft x.ro,t,s]/\ck aF 1 ok w [t] x.tags/\ck bC 11 ok w [s] x.Gf
def aO:jx az:=fun ok w vs x=>∃t,vs=[By x.name,Bm U8 x.id,Bm Sj x.first,Bm Sj x.Gc,Ft x.closed,Ft x.missing,t]/\ck aF 1 ok w [t] x.tags
def lF:jx (H6 × H5):=fun _ _ vs x=>vs=[By x.1,Bm U8 x.2.1,Bm Sj x.2.2]
def EU:jx af:=fun ok w vs x=>∃t d v h,vs=[By x.name,Bm U8 x.id,Bm Sj x.seq,Bm Sj x.Gd,Bm Sj x.next,t,d,v,h] /\
 ck aF 1 ok w [t] x.tags/\ck aO 7 ok w [d] x.Gb/\ck aN 6 ok w [v] x.F9/\ck lF 3 ok w [h] x.history
def Mv(ok ok':LN)(w w':H7):Prop:=w.1.size<=w'.1.size/\∀b,b<w.1.size->ok b->ok' b/\w'.1[b]?=w.1[b]?
structure Moves{α:Type}(V:jx α):Prop where
 mv:∀ {ok ok':LN} {w w':H7} {u:RH} {x:α},Mv ok ok' w w'->V ok w u x->V ok' w' u x
def oh.moves{V:jx α}(hV:Moves V){ok:LN}{l:wy α}(hm:Mv ok ok' w w')(hb:b<w.1.size)(ho:ok b)(h:oh V sz ok w b off l):oh V sz ok' w' b off l:=fun i x hx=>by
 obtain⟨u,hu,hv,hc⟩:=h i x hx;exact⟨u,hu,hV.mv hm hv,fun j z hz=>(cd (w:=w) (hm.2 b hb ho).2).trans (hc j z hz)⟩
def ck.moves{V:jx α}(hV:Moves V):Moves (ck V sz):=⟨fun hm h=>by
 obtain⟨p,cap,e,h1,h2,h3⟩:=h;refine⟨p,cap,e,h1,h2,fun h0=>?_⟩;obtain⟨b,off,ep,hb,ho,hc⟩:=h3 h0;exact⟨b,off,ep,cC hb hm.1,(hm.2 b hb ho).1,hc.moves hV hm hb ho⟩⟩
def cO.moves:Moves cO:=⟨fun _ h=>h⟩
def aF.moves:Moves aF:=⟨fun _ h=>h⟩
def aQ.moves:Moves aQ:=⟨fun _ h=>h⟩
def lF.moves:Moves lF:=⟨fun _ h=>h⟩
def bC.moves:Moves bC:=⟨fun hm ⟨a,s,e,h1,h2⟩=>⟨a,s,e,(ck.moves aQ.moves).mv hm h1,(ck.moves cO.moves).mv hm h2⟩⟩
def aN.moves:Moves aN:=⟨fun hm ⟨t,s,e,h1,h2⟩=>⟨t,s,e,(ck.moves aF.moves).mv hm h1,(ck.moves bC.moves).mv hm h2⟩⟩
def aO.moves:Moves aO:=⟨fun hm ⟨t,e,h1⟩=>⟨t,e,(ck.moves aF.moves).mv hm h1⟩⟩
def Flat{α:Type}(V:jx α)(sz:Nat)(ok:LN)(w:H7):RH->wy α->Prop
 |cs,[]=>cs=[]
 |cs,x :: l=>∃u r,cs=u++r/\u.length=sz/\V ok w u x/\(∀z∈u,z.oneCell'=VR)/\Flat V sz ok w r l
def bF{α:Type}(V:jx α)(sz:Nat)(t:TypeId)(B:Nat)(ok:LN)(w:H7)(v:zY)(l:wy α):Prop:=∃cs,w.ownsRow B t sz v l.length cs/\Flat V sz ok w cs l
def Flat.moves{V:jx α}(hV:Moves V){ok:LN}(hm:Mv ok ok' w w'):∀(l:wy α) (cs:RH),Flat V sz ok w cs l->Flat V sz ok' w' cs l
 |[],_,h=>h
 |_ :: l,_,⟨u,r,e,h1,h2,h3,h4⟩=>⟨u,r,e,h1,hV.mv hm h2,h3,Flat.moves hV hm l r h4⟩
def Flat.append{V:jx α}{ok:LN}{m:wy α}{ds:RH}(k:Flat V sz ok w ds m):∀(l:wy α) (cs:RH),Flat V sz ok w cs l->Flat V sz ok w (cs++ds) (l++m)
 |[],cs,h=>by
  simp only[Flat]at h;subst h;exact k
 |_ :: l,_,⟨u,r,e,h1,h2,h3,h4⟩=>⟨u,r++ds,by rw[e,cV],h1,h2,h3,Flat.append k l r h4⟩
def Flat.one{V:jx α}{ok:LN}{u:RH}{x:α}(h1:u.length=sz)(h2:V ok w u x)(h3:∀z∈u,z.oneCell'=VR):Flat V sz ok w u [x]:=⟨u,[],XN,h1,h2,h3,rfl⟩
def Flat.length{V:jx α}{ok:LN}:∀(l:wy α) (cs:RH),Flat V sz ok w cs l->cs.length=l.length*sz
 |[],cs,h=>by
  simp only[Flat]at h;simp[h]
 |_ :: l,_,⟨u,r,e,h1,h2,h3,h4⟩=>by
  have:=Flat.length l r h4;rw[e,cD,this,h1,cS,P7];omega
def Td7(h:gt:=by simpa using hx):=h
def Flat.get{V:jx α}{ok:LN}:∀(l:wy α) (cs:RH),Flat V sz ok w cs l->∀(i:Nat) (x:α),l[i]?=Vv x->∃u:RH,u.length=sz/\V ok w u x/\∀(j:Nat) (z:zY),u[j]?=Vv z->cs[i*sz+j]?=Vv z
 |[],_,_,i,x,hx=>by simp at hx
 |y :: l,cs,⟨u,r,e,h1,h2,h3,h4⟩,i,x,hx=>by
  cases i with
  |zero =>
   simp at hx;subst hx;refine⟨u,h1,h2,fun j z hz=>?_⟩;have hj:=(AT.1 hz).1;rw[e,Nat.zero_mul,eJ,Fo hj];exact hz
  |succ i =>
   obtain⟨u',k1,k2,k3⟩:=Flat.get l r h4 i x Td7;refine⟨u',k1,k2,fun j z hz=>?_⟩;rw[e,Cp (by rw[h1,P7];omega),h1,show(i+1)*sz+j-sz=i*sz+j from by rw[P7];omega];exact k3 j z hz
def bF.rd{V:jx α}{ok:LN}{l:wy α}(hV:Moves V)(h:bF V sz t B ok w v l)(a7:0<sz)(gw:∀b,b<w.1.size->ok b->ok' b)(a5:∀b,v.ownBlock=Vv b->ok' b):ck V sz ok' w [v] l:=by
 obtain⟨cs,⟨h1,h2⟩,hf⟩:=h;rcases h2 with⟨rfl,hn⟩|⟨g,cap,a8,rfl,hb,hg,vr,hcm,ab,ht⟩
 ·exact TcF
 refine⟨Vv ⟨g,0,VX⟩,cap,rfl,vr,Tds,fun _=>⟨g,0,rfl,(F1.1 hg).1,a5 g lX,fun i x hx=>?_⟩⟩;have a9:i<l.length:=(AT.1 hx).1;obtain⟨u,k1,k2,k3⟩:=Flat.get l cs hf i x hx;refine⟨u,k1,hV.mv ⟨bk _,fun b aa ho=>⟨gw b aa ho,rfl⟩⟩ k2,fun j z hz=>?_⟩;have hc:=k3 j z hz;have hj:=(AT.1 hz).1;have hlt:i*sz+j<l.length*sz:=by
  have:(i+1)*sz<=l.length*sz:=tA _ a9;rw[P7]at this;omega
 rw[<- ht,ri WQ]at hc;rw[cell_of_row w g (0+i*sz+j) a8 _ (0,0) hg,eJ];simpa using hc
def ZQ(X:LN)(bb:Nat)(nv vv:zY):Nat->Prop:=fun b=>bb<b/\nv.ownBlock≠Vv b/\vv.ownBlock≠Vv b/\¬X b
def QD(bs bb:Nat)(nv vv:zY):Nat->Prop:=fun k=>k=bs\/k=bb\/nv.ownBlock=Vv k\/vv.ownBlock=Vv k
def Fp(hv:zY)(l:wy (H6 × H5)):Prop:=hv=FG VX 0 0/\l=[]
def TaO(x0:IH)(x1:af)(x2:zY)(x3:zY)(x4:zY)(x5:zY)(x6:zY):Tab #[SL x0,By x1.name,Bm U8 x1.id,Bm Sj x1.seq,Bm Sj x1.Gd,Bm Sj x1.next,x2,x3,x4,x5,x6]:=⟨⟩
structure eW(X:LN)(w:H7)(bs bb:Nat)(nv vv:zY)(g:af)(next:PI):Prop where
 src:Src w bs
 lt:bs<bb
 blk:∃tv dv hv,w.heap[bb]?=Vv (Sx (TaO (Vv ⟨bs,0,VX⟩) g tv dv vv hv nv) 63 (0,0)) /\
  ck aF 1 (ZQ X bb nv vv) w [tv] g.tags/\ck aO 7 (ZQ X bb nv vv) w [dv] g.Gb/\Fp hv g.history
 ownN:eG w (bb+1) nv next
 ownV:bF aN 6 46 (bb+1) (ZQ X bb nv vv) w vv g.F9
 ne:∀k,nv.ownBlock=Vv k->vv.ownBlock≠Vv k
 xlt:∀k,X k->bb<k/\k<w.heap.size
 xn:∀k,nv.ownBlock=Vv k->¬X k
 xv:∀k,vv.ownBlock=Vv k->¬X k
variable {g:af}
def eW.Gj(h:eW X w bs bb nv vv g next):bb<w.1.size:=by
 obtain⟨tv,dv,hv,e,_⟩:=h.blk;exact aq e
def eF(h:w.ownsRow B t sz v n xs)(hk:∀k,B<=k->k<w.1.size->w'.1[k]?=w.1[k]?):w'.ownsRow B t sz v n xs:=by
 obtain⟨h1,h2⟩:=h;refine⟨h1,?_⟩;rcases h2 with hn|⟨g,cap,a5,hv,pC,hg,r⟩
 ·exact .inl hn
 exact .inr ⟨g,cap,a5,hv,pC,by rw[hk g pC (F1.1 hg).1];exact hg,r⟩
def aC(h:w.ownsRow B t sz v n xs)(hk:∀k,v.ownBlock=Vv k->w'.1[k]?=w.1[k]?):w'.ownsRow B t sz v n xs:=by
 obtain⟨h1,h2⟩:=h;refine⟨h1,?_⟩;rcases h2 with hn|⟨g,cap,a5,rfl,pC,hg,r⟩
 ·exact .inl hn
 exact .inr ⟨g,cap,a5,rfl,pC,by rw[hk g lX];exact hg,r⟩
def eW.nLt(h:eW X w bs bb nv vv g next)(e:nv.ownBlock=Vv k):bb<k/\k<w.1.size:=by
 have:=h.ownN.lt k e;omega
def eW.vLt(h:eW X w bs bb nv vv g next)(e:vv.ownBlock=Vv k):bb<k/\k<w.1.size:=by
 obtain⟨cs,ho,_⟩:=h.ownV;have:=ho.lt k e;omega
def eW.keep(h:eW X w bs bb nv vv g next)(hs:Src w' bs)(hz:w.1.size<=w'.1.size)(hk:∀k,bb<=k->k<w.1.size->¬X k->w'.1[k]?=w.1[k]?):eW X w' bs bb nv vv g next:=by
 have hm:Mv (ZQ X bb nv vv) (ZQ X bb nv vv) w w':=⟨hz,fun b hb ho=>⟨ho,hk b (Nat.le_of_lt ho.1) hb ho.2.2.2⟩⟩;refine⟨hs,h.lt,?_,?_,?_,h.ne,fun k hx=>⟨(h.xlt k hx).1,cC (h.xlt k hx).2 hz⟩,h.xn,h.xv⟩
 ·obtain⟨tv,dv,hv,e,h1,h2,h3⟩:=h.blk;exact⟨tv,dv,hv,(hk bb (bk _) h.Gj (fun hx=>Nat.lt_irrefl _ (h.xlt _ hx).1)).trans e,(ck.moves aF.moves).mv hm h1,(ck.moves aO.moves).mv hm h2,h3⟩
 ·exact aC h.ownN fun k e=>hk k (Nat.le_of_lt (h.nLt e).1) (h.nLt e).2 (h.xn k e)
 have mb:=fun k e=>h.vLt (k:=k) e
 obtain⟨cs,ho,hf⟩:=h.ownV;exact⟨cs,aC ho fun k e=>hk k (Nat.le_of_lt (mb k e).1) (mb k e).2 (h.xv k e),Flat.moves aN.moves hm _ _ hf⟩
def eW.read(h:eW X w bs bb nv vv g next)(hs:Src w' bs)(hm:cR (fun i=>i=bs) w w'):eW X w' bs bb nv vv g next :=
 h.keep hs hm.size fun k h1 h2 _=>hm.block k h2 (by have:=h.lt;omega)
def TeO(h:gt:=by have:=h.lt;have:=h.Gj;omega):=h
def eW.below(h:eW X w bs bb nv vv g next)(hb:Below w.1.size w w'):eW X w' bs bb nv vv g next :=
 h.keep (h.src.keep fun i hi=>hb.block i TeO) hb.size fun k _ h2 _=>hb.block k h2
def TdJ(h:gt:=by have:=ho.1;omega):=h
def eW.put(h:eW X w bs bb nv vv g next)(g':af)(hz:w.1.size<=w'.1.size)(hk:∀k,k≠bb->k<w.1.size->w'.1[k]?=w.1[k]?)
  (hb:∀tv dv hv,w.1[bb]?=Vv (Sx (TaO (Vv ⟨bs,0,VX⟩) g tv dv vv hv nv) 63 (0,0)) ->
   w'.1[bb]?=Vv (Sx (TaO (Vv ⟨bs,0,VX⟩) g' tv dv vv hv nv) 63 (0,0)))
  (ht:g'.tags=g.tags) (hd:g'.Gb=g.Gb) (hh:g'.history=g.history) (hv:g'.F9=g.F9):eW X w' bs bb nv vv g' next:=by
 have hm:Mv (ZQ X bb nv vv) (ZQ X bb nv vv) w w':=⟨hz,fun b hb ho=>⟨ho,hk b TdJ hb⟩⟩;have hl:=h.lt;have hbl:=h.Gj;refine⟨h.src.keep fun i hi=>hk i WQ WQ,hl,?_,?_,?_,h.ne,fun k hx=>⟨(h.xlt k hx).1,cC (h.xlt k hx).2 hz⟩,h.xn,h.xv⟩
 ·obtain⟨tv,dv,hv,e,h1,h2,h3⟩:=h.blk;exact⟨tv,dv,hv,hb tv dv hv e,by rw[ht];exact(ck.moves aF.moves).mv hm h1,by rw[hd];exact(ck.moves aO.moves).mv hm h2,by rw[hh];exact h3⟩
 ·exact eF h.ownN fun k a5 hk2=>hk k WQ hk2
 obtain⟨cs,ho,hf⟩:=h.ownV;rw[hv];exact⟨cs,eF ho fun k a5 hk2=>hk k WQ hk2,Flat.moves aN.moves hm _ _ hf⟩
@[irreducible] def oX (i n:Int):Int:=(i*2862933555777941757+n*3037000493)%18446744073709551616
def uO{i n:Int}{w:H7}(hn:0<=n)(hn2:n<=1000000000):Calls prog 85 #[Bm U8 i,Bm Sj n] w fun e w'=>e=S6 (Bm U8 (oX i n))/\w'=w:=by
 go_enter func85,ntmps85;go_wp2;go_ret
 have e:IntKind.u64.wrap (IntKind.u64.wrap (i*2862933555777941757)+n*3037000493)=oX i n:=by
  unfold oX;rw[IntKind.wrap_u64,IntKind.wrap_u64];omega
 exact⟨by rw[<- e];rfl,rfl⟩
structure aH(X:LN)(bs bb:Nat)(nv vv:zY)(w w':H7)(nv' pA:zY)(g':af)(next':PI):Prop where
 bld:eW X w' bs bb nv' pA g' next'
 mod:cR (QD bs bb nv vv) w w'
 nfr:∀k,nv'.ownBlock=Vv k->nv.ownBlock=Vv k\/w.heap.size<=k
 vfr:∀k,pA.ownBlock=Vv k->vv.ownBlock=Vv k\/w.heap.size<=k
def vS(X:LN)(bs bb:Nat)(nv vv:zY)(g:af)(next:PI)(w:H7)(h:eW X w bs bb nv vv g next)(hn:0<=g.next)(hn2:g.next<=100000000):Calls prog 42 #[SL (Vv bb)] w fun e w'=>e=S6 (Bm U8 (oX g.id (g.next+1)))/\aH X bs bb nv vv w w' nv vv { g with next:=g.next+1 } next:=by
 obtain⟨tv,dv,hv,hb,h1,h2,h3⟩:=h.blk;have c1:=cr hb 5 _ lX;have f1:w.frozen? (XM bb 5)=VN:=by simp[BT,hb]
 have c2:=cr hb 2 _ lX;have gO:=h.Gj;replace hb:=aa hb;go_enter func42,ntmps42
 have a5:(w.setCell (XM bb 5) (Bm Sj (g.next+1))).cell? (XM bb 5)=Vv (Bm Sj (g.next+1)):=by
  have:=block_setCell (i:=5) (Bm Sj (g.next+1)) hb.o;simp[AN,this]
 have a7:(w.setCell (XM bb 5) (Bm Sj (g.next+1))).cell? (XM bb 2)=Vv (Bm U8 g.id):=by
  have:=block_setCell (i:=5) (Bm Sj (g.next+1)) hb.o;simp[AN,this]
 go_wp2;generalize hW:w.setCell (XM bb 5) (Bm Sj (g.next+1))=W at *;have HW:=aa hW;clear hW;go_quiet ((go_at_call 85;exact po (uO WQ WQ)));go_wp2;go_ret;have hW:=HW.o;subst hW;refine⟨rfl,?_,?_,fun k hk=>.inl hk,fun k hk=>.inl hk⟩
 ·exact h.put _ Tdi (fun k hk _=>bw _ _ _ _ hk) (fun tv dv hv e=>block_setCell (cs:=#[_,_,_,_,_,_,_,_,_,_,_]) (i:=5) _ e) lX rfl rfl rfl
 exact((cR.refl (QD bs bb nv vv) w).setCell (p:=⟨bb,5,VX⟩) (.inl (.inr (.inl lX))) _).drewN _
def eW.at(h:eW X w bs bb nv vv g next){D:az}{m:Int}(hd:g.Gb[d]?=Vv D)(hn:next[d]?=Vv m) :
  ∃db a5 ir nb ki,w.cell? bb=Vv (SL (Vv bs))/\w.cell? (XM bb 7)=Vv (FG (Vv ⟨db,a5,VX⟩) (Wq g.Gb) ir)/\nv=FG (Vv ⟨nb,0,VX⟩) next.length ki/\w.cell? (XM bb 10)=Vv (FG (Vv ⟨nb,0,VX⟩) next.length ki) /\
   w.cell? (nb,d)=Vv (Bm Sj m)/\w.frozen? (nb,d)=VN/\w.cell? (db,a5+d*7)=Vv (By D.name)/\w.cell? (db,a5+d*7+3)=Vv (Bm Sj D.Gc) /\
   (Wq g.Gb)<=ir/\ir<=9223372036854775807/\next.length<=ki/\ki<=9223372036854775807/\bb<nb/\nb<w.1.size/\bb<db/\db≠nb/\db<w.1.size/\d<Wq g.Gb/\d<next.length:=by
 have CD:d<Wq g.Gb:=(AT.1 hd).1;have zr:d<next.length:=(AT.1 hn).1;obtain⟨tv,dv,hv,e,_,h2,_⟩:=h.blk;obtain⟨p,ir,ed,k1,k2,k3⟩:=h2;obtain⟨db,a5,rfl,k4,k5,k6⟩:=k3 WQ;simp only[rp,and_true]at ed;subst ed;obtain⟨u,u1,⟨t,rfl,_⟩,u3⟩:=k6 d D hd;have ho:=h.ownN;have a7:=ho;rcases a7.2 with⟨_,hz⟩|⟨nb,ki,a8,rfl,hb,hg,vr,hcm,a9,ht⟩
 ·omega
 refine⟨db,a5,ir,nb,ki,cr e _ _ lX,cr e _ _ lX,rfl,cr e _ _ lX,?_,ho.frozenAt _,?_,?_,k1,k2,vr,Tds,WQ,(F1.1 hg).1,k5.1,?_,k4,CD,zr⟩
 ·have:=ho.cellAt d WQ;rw[this];simp[hn]
 ·simpa using u3 0 _ lX
 ·simpa using u3 3 _ lX
 intro e;exact k5.2.1 (by rw[e];rfl)
def eW.setNext(h:eW X w bs bb (FG (Vv nb) next.length ki) vv g next)(d:Nat)(z:Int):eW X (w.setCell (nb,d) (Bm Sj z)) bs bb (FG (Vv nb) next.length ki) vv g (next.set d z):=by
 have a5:=h.ownN;have sy:bb<nb:=by have:=a5.lt nb lX;omega
 have hl:=h.lt;have hk:∀k,k≠nb->(w.setCell (nb,d) (Bm Sj z)).1[k]?=w.1[k]?:=fun k hk=>bw _ _ _ _ hk;have hz:w.1.size<=(w.setCell (nb,d) (Bm Sj z)).1.size:=by simp[AF]
 have hm:Mv (ZQ X bb (FG (Vv nb) next.length ki) vv) (ZQ X bb (FG (Vv nb) next.length ki) vv) w (w.setCell (nb,d) (Bm Sj z)):=⟨hz,fun b _ ho=>⟨ho,hk b (fun e=>ho.2.1 (by rw[e];rfl))⟩⟩;refine⟨h.src.keep fun i hi=>hk i WQ,hl,?_,?_,?_,h.ne,fun k hx=>⟨(h.xlt k hx).1,cC (h.xlt k hx).2 hz⟩,h.xn,h.xv⟩
 ·obtain⟨tv,dv,hv,e,h1,h2,h3⟩:=h.blk;exact⟨tv,dv,hv,(hk bb WQ).trans e,(ck.moves aF.moves).mv hm h1,(ck.moves aO.moves).mv hm h2,h3⟩
 ·have h2:=(a5.stored d (Bm Sj z)).1;unfold eG;rw[List.length_set,List.map_set];exact h2
 obtain⟨cs,ho,hf⟩:=h.ownV;refine⟨cs,?_,Flat.moves aN.moves hm _ _ hf⟩;exact ownsRow_setCell_other ho (fun e=>h.ne nb lX e) _
def eW.readPost(h:eW X w bs bb nv vv g next)(hs:Src w' bs)(hm:cR (fun i=>i=bs) w w'):aH X bs bb nv vv w w' nv vv g next :=
 ⟨h.read hs hm,hm.mono (fun _ hk=>.inl hk),fun _ hk=>.inl hk,fun _ hk=>.inl hk⟩
def fu{o:Nat}(hb:b<w.1.size)(h:w.cell? (b,o)=Vv v):((w.drewN N).alloc (Sx cs t)).cell? (b,o)=Vv v :=
 (cd (w:=w) (cj (w.drewN N) _ _ hb)).trans h
def Jl :((w.drewN N).alloc (Sx cs t)).frozen? (w.1.size,i)=VN:=by
 have h:((w.drewN N).alloc (Sx cs t)).1[w.1.size]?=Vv (Sx cs t (0,0)):=b9 (w.drewN N) _;unfold BT;simp only[h];simp
def mD{b:H7}{u:zY}(h:a.1[p.block]?=b.1[p.block]?):(a.setCell p u).1[p.block]?=(b.setCell p u).1[p.block]?:=by
 simp only[AF,BW,ej];rw[h]
def cR.alloc(h:cR F a w)(o:Obj):cR F a (w.alloc o) :=
 h.trans (G:=fun _=>False) (cR.of_below ((bj _ _).alloc (bk _) _)) (fun _ f=>f.elim)
def eW.nextPost(h:eW X w bs bb (FG (Vv nb) next.length ki) vv g next)(hs:Src w1 bs)(hm:cR (fun i=>i=bs) w w1)
  (h2:cR (fun k=>w.1.size<=k) (w1.setCell (nb,d) (Bm Sj z)) w2):aH X bs bb (FG (Vv nb) next.length ki) vv w w2 (FG (Vv nb) next.length ki) vv g (next.set d z):=by
 have a5:=h.ownN;have sy:bb<nb/\nb<w.1.size:=by have:=a5.lt nb lX;omega
 have hl:=h.lt;have R0:(w1.setCell (nb,d) (Bm Sj z)).1.size=w1.1.size:=by simp[AF]
 have hz:=hm.size;have k2:∀k,k<w.1.size->w2.1[k]?=(w1.setCell (nb,d) (Bm Sj z)).1[k]?:=fun k hk=>h2.block k WQ WQ;refine⟨(h.setNext d z).keep ?_ ?_ ?_,?_,fun _ hk=>.inl hk,fun _ hk=>.inl hk⟩
 ·exact hs.keep fun i hi=>(k2 i WQ).trans (bw _ _ _ _ ZY)
 ·have:=h2.size;simp[AF]at this ⊢;omega
 ·intro k h3 h4 _;have a7:k<w.1.size:=by simpa[AF]using h4
  rw[k2 k a7];by_cases e:k=nb
  ·subst e;exact mD (p:=⟨k,d,VX⟩) (hm.block k a7 WQ)
  rw[bw _ _ _ _ e,bw _ _ _ _ e];exact hm.block k a7 WQ
 exact((hm.mono (fun _ hk=>.inl hk)).setCell (p:=⟨nb,d,VX⟩) (.inl (.inr (.inr (.inl lX)))) _).trans h2 (fun i hi=>.inr hi)
def eW.readPost'(h:eW X w bs bb nv vv g next)(hs:Src w' bs)(hm:cR (fun i=>i=bs) w w'):aH X bs bb nv vv w w' nv vv g next/\w'.1[bb]?=w.1[bb]? :=
 ⟨h.readPost hs hm,hm.block bb h.Gj (by have:=h.lt;omega)⟩
def eW.nextPost'(h:eW X w bs bb (FG (Vv nb) next.length ki) vv g next)(hs:Src w1 bs)(hm:cR (fun i=>i=bs) w w1)
  (h2:cR (fun k=>w.1.size<=k) (w1.setCell (nb,d) (Bm Sj z)) w2):aH X bs bb (FG (Vv nb) next.length ki) vv w w2 (FG (Vv nb) next.length ki) vv g (next.set d z)/\w2.1[bb]?=w.1[bb]?:=by
 have hbl:=h.Gj;have hlt:=h.lt;have sy:bb<nb:=by have:=h.ownN.lt nb lX;omega
 have hz:=hm.size;refine⟨h.nextPost hs hm h2,?_⟩;rw[h2.block bb (by simp[AF];omega) WQ,bw _ _ _ _ (show bb≠nb by omega)];exact hm.block bb hbl WQ
def Tat(x0:H6)(x1:Int):Tab #[Ft VN,By x0,Bm Sj x1]:=⟨⟩
def Tau :Tab #[Ft VN,By ⟨#[]⟩,Bm Sj 0]:=⟨⟩
def FC(X:LN)(bs bb:Nat)(nv vv:zY)(g:af)(next:PI)(d:Nat)(D:az)(m n:Int)(w:H7)(e:Ending)(w':H7):Prop :=
 (e=S6 (Vj #[Tk Tau,VN])/\aH X bs bb nv vv w w' nv vv g next/\w'.1[bb]?=w.1[bb]?) \/
 ∃s:Int,m<=s/\s+n<=D.Gc/\e=S6 (Vj #[Tk (Tat D.name s),VR])/\aH X bs bb nv vv w w' nv vv g (next.set d (s+n))/\w'.1[bb]?=w.1[bb]?
def TbD(h:gt:=by
 rw[<- HW.o,<- HW2.o];have:=M1.size;exact(((((M1.drewN _).drewN _).alloc _).setCell (.inr ZY) _).setCell (.inr ZY) _).setCell (.inr ZY) _):=h
def TbL(h:gt:=by
 rw[<- hW];exact block_setCell (cs:=#[_,_,_]) (i:=2) _ (block_setCell (cs:=#[_,_,_]) (i:=1) _ (block_setCell (cs:=#[_,_,_]) (i:=0) _ (b9 (W2.drewN _) _)))):=h
def TbY(h:gt:=by
 rw[<- hW,bw _ _ _ _ ZY,bw _ _ _ _ ZY,bw _ _ _ _ ZY,cj _ _ _ ZY,<- HW2.o];rfl):=h
def Te9(h:gt:=by simp[results,Tryz.results43,go_sem,p0,p1,p2]):=h
def qR(X:LN)(bs bb:Nat)(nv vv:zY)(g:af)(next:PI){w:H7}(h:eW X w bs bb nv vv g next)(d:Nat)(D:az)(m n:Int)(hd:g.Gb[d]?=Vv D)(hn:next[d]?=Vv m)
  (ag:0<=m) (ah:m<=1000000) (ai:0<=n) (hn1:n<=1000000):Calls prog 43 #[SL (Vv bb),Bm Sj d,Bm Sj n] w (FC X bs bb nv vv g next d D m n w):=by
 replace hd:=aa hd;replace hn:=aa hn;have hbl:=h.Gj;have hlt:=h.lt;have c0:w.cell? bb=Vv (SL (Vv bs)):=by
  obtain⟨_,_,_,_,_,c,_⟩:=h.at hd.o hn.o;exact c
 go_enter func43,ntmps43
 go_wp2_with fail;refine(bY bs _ _ WQ WQ (h.below ((bj _ _).alloc (bk _) _)).src).mono ?_;rintro e w1 ⟨v,rfl,aj,ak,hs,oY⟩;have B1:=(h.below ((bj _ _).alloc (bk _) _)).read hs oY;have hR:w1.1[w.1.size]?=Vv (Sx Tau 53 (0,0)):=by
  rw[oY.block _ XN WQ,b9]
 obtain⟨r0,r1,r2⟩:=sv3 (cr hR);have r3:=sr hR;have zc:w.1.size<w1.1.size:=aq hR;replace hR:=aa hR;have M1:cR (fun i=>i=bs) w w1:=((cR.of_below ((bj _ _).alloc (bk _) _)).trans oY (fun i hi=>.inl hi));obtain⟨db,am,ir,nb,ki,c0,c7,rfl,c10,cn,cf,ab,ao,l1,l2,l3,l4,l5,l6,l7,l8,l9,au,av⟩:=B1.at hd.o hn.o;clear oY hs;have aw:0<=v/2:=by omega
 have ay:v/2<=1:=by omega
 by_cases k1:D.Gc<m+n
 ·have k2:D.Gc<m+v/2+n:=by omega
  go_wp2;go_quiet (fail);go_wp2;go_quiet (fail);go_wp2;refine eC (v:=Vj #[Tk Tau,VN]) (by simp[results,Tryz.results43,go_sem,r0,r1,r2]) lX (.inl ⟨rfl,?_⟩);refine h.readPost' (B1.src.keep fun i hi=>?_) ((((M1.drewN _).setCell (p:=w.1.size) (.inr (bk _)) _).setCell (p:=⟨w.1.size,1,VX⟩) (.inr (bk _)) _).setCell (p:=⟨w.1.size,2,VX⟩) (.inr (bk _)) _);rw[bw _ _ _ _ ZY,bw _ _ _ _ ZY,bw _ _ _ _ ZY];rfl
 have k2:¬D.Gc<m+n:=k1;by_cases k3:D.Gc<m+v/2+n
 ·go_wp2;go_quiet (fail);go_wp2;go_quiet (fail);go_wp2;generalize a5:w1.drewN _=W2;have e2:∀p,W2.cell? p=w1.cell? p:=fun p=>by rw[<- a5];rfl
  have d7:=(e2 _).trans c7;have a8:=(e2 _).trans c10;have dn:=(e2 _).trans cn;have dd:=(e2 _).trans ab;have s2:W2.1.size=w1.1.size:=by rw[<- a5];rfl
  have z1:db<W2.1.size:=by omega
  have z2:nb<W2.1.size:=by omega
  have z3:bb<W2.1.size:=by omega
  have y7:=fun N cs t=>fu (N:=N) (cs:=cs) (t:=t) z3 d7;have a9:=fun N cs t=>fu (N:=N) (cs:=cs) (t:=t) z3 a8;have yn:=fun N cs t=>fu (N:=N) (cs:=cs) (t:=t) z2 dn;have yd:=fun N cs t=>fu (N:=N) (cs:=cs) (t:=t) z1 dd;have a0:∀N (u v x:zY) (t:TypeId),((W2.drewN N).alloc (Sx #[u,v,x] t)).cell? W2.1.size=Vv u:=fun N u v x t=>aD lX rfl;have a1:∀N (u v x:zY) (t:TypeId),((W2.drewN N).alloc (Sx #[u,v,x] t)).cell? (XM W2.1.size 1)=Vv v:=fun N u v x t=>aD lX rfl;have a2:∀N (u v x:zY) (t:TypeId),((W2.drewN N).alloc (Sx #[u,v,x] t)).cell? (XM W2.1.size 2)=Vv x:=fun N u v x t=>aD lX rfl;have a3:∀N (i:Nat) (cs:Array zY) (t:TypeId),((W2.drewN N).alloc (Sx cs t)).frozen? ⟨W2.1.size,i,VX⟩=VN:=fun N i cs t=>Jl;have E2:=aa e2;clear e2;have S2:=aa s2;clear s2;have HW2:=aa a5;clear a5
  go_region
  clear y7 a9 yn yd;generalize hW:AF (AF (AF (AI (World.drewN W2 _) _) _ _) _ _) _ _=W6;have S:W2.1.size=w1.1.size:=S2.o;have hk6:∀k,k<w1.1.size->W6.1[k]?=w1.1[k]?:=fun k hk=>by
   exact TbY
  have a7:W6.1[W2.1.size]?=Vv (Sx (Tat D.name m) 53 (0,0)):=by
   exact TbL
  have ae:W6.cell? (XM bb 10)=_:=(cd (w:=w1) (hk6 bb WQ)).trans c10;have qn:W6.cell? (nb,d)=_:=(cd (w:=w1) (hk6 nb WQ)).trans cn;have qf:W6.frozen? (nb,d)=_:=(rh (w:=w1) (hk6 nb WQ)).trans cf;have n0:=sv3 (cr a7);have R6:=(hk6 w.1.size WQ).trans hR.o;obtain⟨p0,p1,p2⟩:=sv3 (cr R6);have p3:=sr R6;have x1:nb≠W2.1.size:=by omega
  have x2:nb≠w.1.size:=by have:=h.ownN.lt nb lX;omega
  have x3:w.1.size≠W2.1.size:=by omega
  have K6:=aa hk6;clear hk6;have N6:=aa a7;clear a7;have ZG:=aa R6;clear R6;have HW:=aa hW;clear hW;have HS:=aa S;clear S;clear a0 a1 a2 a3;go_wp2;refine eC (v:=Vj #[Tk (Tat D.name m),VR]) Te9 lX (.inr ⟨m,WQ,WQ,rfl,?_⟩);have M6:cR (fun i=>i=bs) w W6:=by
   exact TbD
  refine h.nextPost' (w1:=W6) (B1.src.keep fun i hi=>K6.o i WQ) M6 ?_;exact((((cR.refl (fun k=>w.1.size<=k) (W6.setCell (nb,d) (Bm Sj (m+n)))).setCell (p:=w.1.size) (.inl (bk _)) _).setCell (p:=⟨w.1.size,1,VX⟩) (.inl (bk _)) _).setCell (p:=⟨w.1.size,2,VX⟩) (.inl (bk _)) _)
 go_wp2;go_quiet (fail);go_wp2;go_quiet (fail);go_wp2;generalize a5:w1.drewN _=W2;have e2:∀p,W2.cell? p=w1.cell? p:=fun p=>by rw[<- a5];rfl
 have d7:=(e2 _).trans c7;have a8:=(e2 _).trans c10;have dn:=(e2 _).trans cn;have dd:=(e2 _).trans ab;have s2:W2.1.size=w1.1.size:=by rw[<- a5];rfl
 have z1:db<W2.1.size:=by omega
 have z2:nb<W2.1.size:=by omega
 have z3:bb<W2.1.size:=by omega
 have y7:=fun N cs t=>fu (N:=N) (cs:=cs) (t:=t) z3 d7;have a9:=fun N cs t=>fu (N:=N) (cs:=cs) (t:=t) z3 a8;have yn:=fun N cs t=>fu (N:=N) (cs:=cs) (t:=t) z2 dn;have yd:=fun N cs t=>fu (N:=N) (cs:=cs) (t:=t) z1 dd;have a0:∀N (u v x:zY) (t:TypeId),((W2.drewN N).alloc (Sx #[u,v,x] t)).cell? W2.1.size=Vv u:=fun N u v x t=>aD lX rfl;have a1:∀N (u v x:zY) (t:TypeId),((W2.drewN N).alloc (Sx #[u,v,x] t)).cell? (XM W2.1.size 1)=Vv v:=fun N u v x t=>aD lX rfl;have a2:∀N (u v x:zY) (t:TypeId),((W2.drewN N).alloc (Sx #[u,v,x] t)).cell? (XM W2.1.size 2)=Vv x:=fun N u v x t=>aD lX rfl;have a3:∀N (i:Nat) (cs:Array zY) (t:TypeId),((W2.drewN N).alloc (Sx cs t)).frozen? ⟨W2.1.size,i,VX⟩=VN:=fun N i cs t=>Jl;have E2:=aa e2;clear e2;have S2:=aa s2;clear s2;have HW2:=aa a5;clear a5
 go_region
 clear y7 a9 yn yd;generalize hW:AF (AF (AF (AI (World.drewN W2 _) _) _ _) _ _) _ _=W6;have S:W2.1.size=w1.1.size:=S2.o;have hk6:∀k,k<w1.1.size->W6.1[k]?=w1.1[k]?:=fun k hk=>by
  exact TbY
 have a7:W6.1[W2.1.size]?=Vv (Sx (Tat D.name (m+v/2)) 53 (0,0)):=by
  exact TbL
 have ae:W6.cell? (XM bb 10)=_:=(cd (w:=w1) (hk6 bb WQ)).trans c10;have qn:W6.cell? (nb,d)=_:=(cd (w:=w1) (hk6 nb WQ)).trans cn;have qf:W6.frozen? (nb,d)=_:=(rh (w:=w1) (hk6 nb WQ)).trans cf;have n0:=sv3 (cr a7);have R6:=(hk6 w.1.size WQ).trans hR.o;obtain⟨p0,p1,p2⟩:=sv3 (cr R6);have p3:=sr R6;have x1:nb≠W2.1.size:=by omega
 have x2:nb≠w.1.size:=by have:=h.ownN.lt nb lX;omega
 have x3:w.1.size≠W2.1.size:=by omega
 have K6:=aa hk6;clear hk6;have N6:=aa a7;clear a7;have ZG:=aa R6;clear R6;have HW:=aa hW;clear hW;have HS:=aa S;clear S;clear a0 a1 a2 a3;go_wp2;refine eC (v:=Vj #[Tk (Tat D.name (m+v/2)),VR]) Te9 lX (.inr ⟨m+v/2,WQ,WQ,rfl,?_⟩);have M6:cR (fun i=>i=bs) w W6:=by
  exact TbD
 rw[show m+v/2+n=m+(v/2+n) from by omega];refine h.nextPost' (w1:=W6) (B1.src.keep fun i hi=>K6.o i WQ) M6 ?_;exact((((cR.refl (fun k=>w.1.size<=k) (W6.setCell (nb,d) (Bm Sj (m+(v/2+n))))).setCell (p:=w.1.size) (.inl (bk _)) _).setCell (p:=⟨w.1.size,1,VX⟩) (.inl (bk _)) _).setCell (p:=⟨w.1.size,2,VX⟩) (.inl (bk _)) _)
def Te3(h:gt:=by have:(l.length+1)*qS<=2000000*1000:=ue (by omega) Hv;omega):=h
def wF{V:jx α}(hV:Moves V){qS:Nat}{e:TypeId}{i0:TypeInfo}{z:zY}(hu:prog.underlying t=Vv (.slice e))(hi:prog.info? e=Vv i0)(hz:i0.zero=Vv z)(a5:i0.size=sz)(aa:i0.bytes=qS)(ab:z.cells.size=sz)(zc:0<sz)(Hv:qS<=1000)
  {w:H7} {ops:Array Oper} {rest:wy Oper} {o:Oper} {a:Act} {Q:N2} (ae:o.guard=VX) 
  (ho:o.op=.call { callee:=.builtin .append,args:=#[s,x],argTypes:=#[t,t] })
  (B:Nat) (ok:LN) {v:zY} (l:wy α) (p:α) (hs:a.eval s=v) (a7:bF V sz e B ok w v l) (g c:Nat) (u:RH) (hx:a.eval x=FG (Vv g) 1 c)
  (ez:u.length=sz) (af:V ok w u p) (a9:∀z∈u,z.oneCell'=VR) (hc:∀(j:Nat) (y:zY),u[j]?=Vv y->w.cell? (g,j)=Vv y) (hl:l.length<=1000000) (hB:B<=w.1.size)
  (gw:∀b,v.ownBlock=Vv b->¬ok b)
  (h:∀v' w',bF V sz e B ok w' v' (l++[p])->w.grownBy w' v.ownBlock->wpList prog ops Q rest (a.put o.dst v') w'):wpList prog ops Q (o :: rest) a w:=by
 obtain⟨cs,a8,hf⟩:=a7;refine tE w ae s x t ho B e i0 z sz qS hu hi hz a5 aa ab zc v l.length cs hs a8 ⟨g,0,VX⟩ 1 c u hx WQ (fun j y hy=>?_) a9 Tdh Te3 hB (fun v' w' ag hg _=>?_)
 ·rw[iz,eJ];exact hc j y hy
 have hm:Mv ok ok w w':=⟨hg.size,fun b hb gR=>⟨gR,hg.block b hb (fun e=>gw b e.symm gR)⟩⟩
 refine h v' w' ⟨cs++u,?_,(Flat.one ez (hV.mv hm af) a9).append _ _ (Flat.moves hV hm _ _ hf)⟩ hg;rw[cD];exact ag
def iQ:QN:=[⟨#[99,111,108,100]⟩,⟨#[102,97,115,116]⟩,⟨#[115,105,116,101,61,49]⟩,⟨#[115,105,116,101,61,50]⟩]
def FH(b:Nat)(w:H7)(e:Ending)(w':H7):Prop:=∃v l,e=S6 v/\List.Sublist l iQ/\ck aF 1 (fun k=>w.1.size<=k) w' [v] l/\Src w' b/\cR (fun i=>i=b) w w'
def CJ:(prog.info? 9).map (fun i=>(i.zero,i.size,i.bytes))=Vv (Vv (By ⟨#[]⟩),1,16):=by kernel_rfl
def Zf(h:gt:=by go_num):=h
def Tdr(h:gt:=by simpa using hy):=h
def qY(b:Nat)(w:H7)(h:Src w b):Calls prog 14 #[SL (Vv b)] w (FH b w):=by
 have cX:=h.lt;go_enter func14,ntmps14;go_wp2
 go_loopw[3,5] (fun o i wr=>∃(k:Nat) (l:QN),k<=4/\i=Bm Sj k/\List.Sublist l (iQ.take k)/\bF aF 1 9 (w.1.size+1) (fun _=>False) wr o l/\Src wr b/\cR (fun i=>i=b) w wr/\wr.1[w.1.size]?=Vv (Sx (iQ.map By).toArray 9 (0,0))) (fun _ i _=>4-(intOf i).toNat)
 case atStart =>
  refine⟨0,[],WQ,rfl,List.Sublist.slnil,⟨[],gS _ _ _ 1,rfl⟩,h.keep fun i hi=>cj _ _ _ WQ,cR.of_below ((bj _ _).alloc (bk _) _),?_⟩;rw[b9];rfl
 obtain⟨k,l,hk,rfl,u9,a7,QG,oY,ga⟩:=hrel;replace u9:=aa u9;replace ga:=aa ga;by_cases hlt:k<4
 ·have ab:V7 ((k:Int)<4)=VR:=by simp;omega
  obtain⟨x,hx⟩:=aj iQ k (by simpa[iQ]using hlt);replace hx:=aa hx;go_wp2_with fail;refine(bY b _ _ WQ WQ QG).mono ?_;rintro e w1 ⟨v,rfl,ae,af,hs1,a9⟩;have cU:=aa ((a9.block w.1.size (aq ga.o) WQ).trans ga.o);have a5:bF aF 1 9 (w.1.size+1) (fun _=>False) w1 u3 l:=by
   obtain⟨cs,ho,hf⟩:=a7;exact⟨cs,eF ho fun i h1 h2=>a9.block i h2 WQ,Flat.moves aF.moves ⟨a9.size,fun _ _ f=>f.elim⟩ _ _ hf⟩
  have M1:=oY.trans a9 (fun i hi=>.inl hi);by_cases hv:v=0
  ·subst hv;obtain⟨i0,hi,du,R0,RC⟩:=gg CJ;have ag:l.length<=4:=cA u9.o.length_le ZY;replace hi:=aa hi;replace du:=aa du;replace R0:=aa R0;replace RC:=aa RC;have cx:w1.cell? (w.1.size,k)=Vv (By x):=by
    have:=hx.o;simp[AN,cU.o,this]
   have TL:w.1.size<w1.1.size:=aq cU.o;go_wp2_with(at_builtin;refine wF aF.moves underlying26 hi.o du.o R0.o RC.o lX YR YR lX lX (w.1.size+1) (fun _=>False) l x lX ?c1 w1.1.size 1 [By x] lX rfl rfl ?c2 ?c3 WQ ?c4 (fun _ _ f=>f) ?_)
   case c1 =>
    obtain⟨cs,ho,hf⟩:=a5;exact⟨cs,eF ho fun i h1 h2=>cj _ _ _ h2,Flat.moves aF.moves ⟨XN,fun _ _ f=>f.elim⟩ _ _ hf⟩
   case c2 =>
    intro z hz;simp at hz;subst hz;rfl
   case c3 =>
    intro j y hy;exact aD lX Tdr
   case c4=>simp;omega
   intro v' w' a8 hg;have M2:=(M1.alloc (Sx #[By x] 9)).trans (G:=fun i=>w.1.size+1<=i) ⟨hg.os,hg.tape,hg.output,hg.size,fun i hi hn=>hg.block i hi (fun e=>hn (by obtain⟨cs,ho,_⟩:=a5;exact(ho.lt i e.symm).1))⟩ (fun i hi=>.inr WQ);have cm:w'.1[w.1.size]?=Vv (Sx (iQ.map By).toArray 9 (0,0)):=by
    rw[hg.block w.1.size ZY (fun e=>by obtain⟨cs,ho,_⟩:=a5;have:=(ho.lt _ e.symm).1;omega),cj _ _ _ TL];exact cU.o
   have S2:Src w' b:=Src.keep hs1 fun i hi=>by
    rw[hg.block i ZY (fun e=>by obtain⟨cs,ho,_⟩:=a5;have:=(ho.lt _ e.symm).1;omega),cj _ _ _ WQ]
   replace cm:=aa cm;go_wp2;go_roundw;exact⟨k+1,l++[x],WQ,Zf,by rw[take_snoc' _ _ _ hx.o];exact u9.o.append (List.Sublist.refl _),a8,S2,M2,cm.o⟩;exact Ti
  have XV:(v==0)=VN:=by simpa using hv
  go_wp2;go_roundw;exact⟨k+1,l,WQ,Zf,u9.o.trans (List.take_sublist_take_left WQ),a5,hs1,M1,cU.o⟩;exact Ti
 have ab:V7 ((k:Int)<4)=VN:=by simp;omega
 go_wp2;go_ret;refine⟨_,l,rfl,?_,a7.rd aF.moves YR (fun _ _ f=>f.elim) (fun g hg=>?_),QG,oY⟩
 ·rw[show iQ=iQ.take k from(jz (by simp[iQ];omega)).symm];exact u9.o
 obtain⟨cs,ho,_⟩:=a7;have:=ho.lt g hg;omega
section
variable {X Y:LN}{w w0 w1 w2:H7}{bs bb:Nat}{nv vv rK rN GC Ds X0 vv2:zY}{g g1 g2:af}{next n1 n2:PI}
variable {k:Nat}
def eW.nfp(h:eW X w bs bb nv vv g next)(hk:w.1.size<=k):¬QD bs bb nv vv k:=by
 rintro(rfl|rfl|e|e)
 ·have:=h.lt;have:=h.Gj;omega
 ·have:=h.Gj;omega
 ·have:=(h.nLt e).2;omega
 have:=(h.vLt e).2;omega
def eW.xfp(h:eW X w bs bb nv vv g next)(hk:X k):¬QD bs bb nv vv k:=by
 have:=h.xlt k hk;rintro(rfl|rfl|e|e)
 ·have:=h.lt;omega
 ·omega
 ·exact h.xn k e hk
 exact h.xv k e hk
def eW.okfp(h:eW X w bs bb nv vv g next)(hk:ZQ X bb nv vv k):¬QD bs bb nv vv k:=by
 rintro(rfl|rfl|e|e)
 ·have:=h.lt;have:=hk.1;omega
 ·have:=hk.1;omega
 ·exact hk.2.1 e
 exact hk.2.2.1 e
def eW.sets(h:eW X w bs bb nv vv g next)(hY:∀k,Y k->X k\/(bb<k/\k<w.1.size/\¬QD bs bb nv vv k))(hm:Mv (ZQ X bb nv vv) (ZQ Y bb nv vv) w w):eW Y w bs bb nv vv g next:=by
 refine⟨h.src,h.lt,?_,h.ownN,?_,h.ne,fun k hk=>?_,fun k e hk=>?_,fun k e hk=>?_⟩
 ·obtain⟨tv,dv,hv,e,h1,h2,h3⟩:=h.blk;exact⟨tv,dv,hv,e,(ck.moves aF.moves).mv hm h1,(ck.moves aO.moves).mv hm h2,h3⟩
 ·obtain⟨cs,ho,hf⟩:=h.ownV;exact⟨cs,ho,Flat.moves aN.moves hm _ _ hf⟩
 ·rcases hY k hk with h1|h1
  ·exact h.xlt k h1
  exact⟨h1.1,h1.2.1⟩
 ·rcases hY k hk with h1|h1
  ·exact h.xn k e h1
  exact h1.2.2 (.inr (.inr (.inl e)))
 rcases hY k hk with h1|h1
 ·exact h.xv k e h1
 exact h1.2.2 (.inr (.inr (.inr e)))
def eW.fewer(h:eW X w bs bb nv vv g next)(hY:∀k,Y k->X k):eW Y w bs bb nv vv g next :=
 h.sets (fun k hk=>.inl (hY k hk)) ⟨bk _,fun _ _ ho=>⟨⟨ho.1,ho.2.1,ho.2.2.1,fun hy=>ho.2.2.2 (hY _ hy)⟩,rfl⟩⟩
def eW.fresh(h:eW X w bs bb nv vv g next)(hb:Below w.1.size w w1)(hY:∀k,Y k->X k\/(w.1.size<=k/\k<w1.1.size)):eW Y w1 bs bb nv vv g next:=by
 have hbl:=h.Gj;have h1:=h.below hb;have hm:Mv (ZQ X bb nv vv) (ZQ Y bb nv vv) w w1:=⟨hb.size,fun b gO ho=>⟨⟨ho.1,ho.2.1,ho.2.2.1,fun hy=>(hY b hy).elim ho.2.2.2 WQ⟩,hb.block b gO⟩⟩;refine⟨h1.src,h.lt,?_,h1.ownN,?_,h.ne,fun k hk=>?_,fun k e hk=>?_,fun k e hk=>?_⟩
 ·obtain⟨tv,dv,hv,e,q1,q2,q3⟩:=h.blk;exact⟨tv,dv,hv,(hb.block bb hbl).trans e,(ck.moves aF.moves).mv hm q1,(ck.moves aO.moves).mv hm q2,q3⟩
 ·obtain⟨cs,ho,hf⟩:=h.ownV;exact⟨cs,eF ho fun k _ h2=>hb.block k h2,Flat.moves aN.moves hm _ _ hf⟩
 ·rcases hY k hk with q|q
  ·exact h1.xlt k q
  omega
 ·rcases hY k hk with q|q
  ·exact h.xn k e q
  have:=h.nLt e;omega
 rcases hY k hk with q|q
 ·exact h.xv k e q
 have:=h.vLt e;omega
def eW.move(h:eW X w bs bb nv vv g next)(a5:cR X w w1)(hY:∀k,Y k->X k\/(w.1.size<=k/\k<w1.1.size)):eW Y w1 bs bb nv vv g next:=by
 have hbl:=h.Gj;have hlt:=h.lt;have h1:=h.keep (w':=w1) (h.src.keep fun i hi=>a5.block i WQ (fun q=>by have:=h.xlt i q;omega)) a5.size (fun k _ h2 hn=>a5.block k h2 hn);have hm:Mv (ZQ X bb nv vv) (ZQ Y bb nv vv) w w1:=⟨a5.size,fun b gO ho=>⟨⟨ho.1,ho.2.1,ho.2.2.1,fun hy=>(hY b hy).elim ho.2.2.2 WQ⟩,a5.block b gO ho.2.2.2⟩⟩;refine⟨h1.src,h.lt,?_,h1.ownN,?_,h.ne,fun k hk=>?_,fun k e hk=>?_,fun k e hk=>?_⟩
 ·obtain⟨tv,dv,hv,e,q1,q2,q3⟩:=h.blk;exact⟨tv,dv,hv,(a5.block bb hbl (fun q=>by have:=h.xlt bb q;omega)).trans e,(ck.moves aF.moves).mv hm q1,(ck.moves aO.moves).mv hm q2,q3⟩
 ·have mb:=fun k e=>h.vLt (k:=k) e
  obtain⟨cs,ho,hf⟩:=h.ownV;exact⟨cs,aC ho fun k e=>a5.block k (mb k e).2 (h.xv k e),Flat.moves aN.moves hm _ _ hf⟩
 ·rcases hY k hk with q|q
  ·exact h1.xlt k q
  omega
 ·rcases hY k hk with q|q
  ·exact h.xn k e q
  have:=h.nLt e;omega
 rcases hY k hk with q|q
 ·exact h.xv k e q
 have:=h.vLt e;omega
def aH.refl(h:eW X w bs bb nv vv g next):aH X bs bb nv vv w w nv vv g next:=⟨h,cR.refl _ _,fun _ hk=>.inl hk,fun _ hk=>.inl hk⟩
def aH.trans(p:aH X bs bb rK rN w0 w1 GC Ds g1 n1)(q:aH Y bs bb GC Ds w1 w2 X0 vv2 g2 n2):aH Y bs bb rK rN w0 w2 X0 vv2 g2 n2:=by
 refine⟨q.bld,p.mod.trans q.mod (fun i hi=>?_),fun k hk=>(q.nfr k hk).elim (p.nfr k) (fun h=>.inr (cA p.mod.size h)),fun k hk=>(q.vfr k hk).elim (p.vfr k) (fun h=>.inr (cA p.mod.size h))⟩;rcases hi with h|h|h|h
 ·exact .inl (.inl h)
 ·exact .inl (.inr (.inl h))
 ·exact(p.nfr i h).elim (fun e=>.inl (.inr (.inr (.inl e)))) .inr
 exact(p.vfr i h).elim (fun e=>.inl (.inr (.inr (.inr e)))) .inr
def aH.fewer(p:aH X bs bb rK rN w0 w1 GC Ds g1 n1)(hY:∀k,Y k->X k):aH Y bs bb rK rN w0 w1 GC Ds g1 n1:=⟨p.bld.fewer hY,p.mod,p.nfr,p.vfr⟩
def aH.fresh(p:aH X bs bb rK rN w0 w1 GC Ds g1 n1)(hb:Below w1.1.size w1 w2)(hY:∀k,Y k->X k\/(w1.1.size<=k/\k<w2.1.size)):aH Y bs bb rK rN w0 w2 GC Ds g1 n1 :=
 ⟨p.bld.fresh hb hY,p.mod.trans (G:=fun _=>False) (cR.of_below hb) (fun _ f=>f.elim),p.nfr,p.vfr⟩
def aH.after(p:aH X bs bb rK rN w0 w1 GC Ds g1 n1)(hb:Below w1.1.size w1 w2):aH X bs bb rK rN w0 w2 GC Ds g1 n1:=p.fresh hb fun _ h=>.inl h
def aH.read(p:aH X bs bb rK rN w0 w1 GC Ds g1 n1)(hs:Src w2 bs)(hm:cR (fun i=>i=bs) w1 w2):aH X bs bb rK rN w0 w2 GC Ds g1 n1:=p.trans (p.bld.readPost hs hm)
def aH.own(p:aH X bs bb rK rN w0 w1 GC Ds g1 n1)(hm:cR (fun k=>X k/\w0.1.size<=k) w1 w2):aH X bs bb rK rN w0 w2 GC Ds g1 n1:=by
 have hx:=fun k (hk:k<w1.1.size) (hn:¬X k)=>hm.block k hk (fun q=>hn q.1);have hbl:=p.bld.Gj;have hlt:=p.bld.lt;refine⟨p.bld.keep (p.bld.src.keep fun i hi=>hx i WQ (fun q=>by have:=p.bld.xlt i q;omega)) hm.size (fun k _ h2 hn=>hx k h2 hn),p.mod.trans hm (fun i hi=>.inr hi.2),p.nfr,p.vfr⟩
def aH.move(p:aH X bs bb rK rN w0 w1 GC Ds g1 n1)(hm:cR (fun k=>X k/\w0.1.size<=k) w1 w2)(hY:∀k,Y k->X k\/(w1.1.size<=k/\k<w2.1.size)):aH Y bs bb rK rN w0 w2 GC Ds g1 n1 :=
 ⟨p.bld.move (hm.mono fun _ q=>q.1) hY,p.mod.trans hm (fun _i hi=>.inr hi.2),p.nfr,p.vfr⟩
def aH.put(p:aH X bs bb rK rN w0 w1 GC Ds g1 n1)(b i:Nat)(u:zY)(hb:X b)(h0:w0.1.size<=b):aH X bs bb rK rN w0 (w1.setCell (b,i) u) GC Ds g1 n1 :=
 p.own ((cR.refl _ _).setCell (p:=⟨b,i,VX⟩) (.inl ⟨hb,h0⟩) _)
def aH.drewN(p:aH X bs bb rK rN w0 w1 GC Ds g1 n1)(n:Nat):aH X bs bb rK rN w0 (w1.drewN n) GC Ds g1 n1:=p.own ((cR.refl _ _).drewN _)
def aH.loc(p:aH Y bs bb nv vv w w1 GC Ds g1 n1)(h:eW X w bs bb nv vv g next)(hk:X k):w1.1[k]?=w.1[k]?:=p.mod.block k (h.xlt k hk).2 (h.xfp hk)
def aH.loc'(p:aH Y bs bb nv vv w w1 GC Ds g1 n1)(h:eW X w bs bb nv vv g next)(hk:ZQ X bb nv vv k)(hl:k<w.1.size):w1.1[k]?=w.1[k]?:=p.mod.block k hl (h.okfp hk)
end
variable {X:LN}{w w1 w2:H7}{bs bb N sz qS gb:Nat}{nv vv z:zY}{g:af}{p:ay}{α:Type}{t e:TypeId}{i0:TypeInfo}{u:RH}
def eW.pushVol(h:eW X w bs bb nv vv g next)(ho:bF aN 6 46 (bb+1) (fun b=>ZQ X bb nv vv b/\b<N) w1 v1 (g.F9++[p]))(hN:N<=w.1.size)(hg:w.grownBy w1 vv.ownBlock)(hat:v1.ownBlock=vv.ownBlock\/v1.ownBlock=Vv w.1.size) :
  aH X bs bb nv vv w (w1.setCell (XM bb 8) v1) nv v1 { g with F9:=g.F9++[p] } next:=by
 have hbl:=h.Gj;have hlt:=h.lt;have hz:=hg.size;have sA:∀k,k<w.1.size->vv.ownBlock≠Vv k->k≠bb->(w1.setCell (XM bb 8) v1).1[k]?=w.1[k]?:=fun k hk hn hb=>(bw _ _ _ _ hb).trans (hg.block k hk (fun e=>hn e.symm));have hne:∀k,vv.ownBlock=Vv k->k≠bb:=fun k e=>by have:=h.vLt e;omega
 have XV:vv.ownBlock≠Vv bb:=fun e=>hne bb e lX
 have gw:∀b,b<w.1.size->ZQ X bb nv vv b->ZQ X bb nv v1 b:=fun b hb ho=>⟨ho.1,ho.2.1,fun e=>by
  rcases hat with q|q
  ·exact ho.2.2.1 (q ▸ e)
  rw[q]at e;injection e with e;omega,ho.2.2.2⟩
 have TN:∀k,v1.ownBlock=Vv k->vv.ownBlock=Vv k\/w.1.size<=k:=fun k e=>by
  rcases hat with q|q
  ·exact .inl (q ▸ e)
  rw[q]at e;injection e with e;exact .inr WQ
 have hm:Mv (ZQ X bb nv vv) (ZQ X bb nv v1) w (w1.setCell (XM bb 8) v1):=⟨by simpa[AF]using hz,fun b hb ho=>⟨gw b hb ho,sA b hb ho.2.2.1 TdJ⟩⟩;have a5:w1.1[bb]?=w.1[bb]?:=hg.block bb hbl (fun e=>XV e.symm);refine⟨⟨h.src.keep fun i hi=>sA i WQ (fun e=>by have:=h.vLt e;omega) WQ,hlt,?_,?_,?_,fun k e e'=>?_,fun k hx=>⟨(h.xlt k hx).1,?_⟩,h.xn,fun k e=>?_⟩,?_,fun _ hk=>.inl hk,TN⟩
 ·obtain⟨tv,dv,hv,e,h1,h2,h3⟩:=h.blk;refine⟨tv,dv,hv,?_,(ck.moves aF.moves).mv hm h1,(ck.moves aO.moves).mv hm h2,h3⟩;exact block_setCell (cs:=#[_,_,_,_,_,_,_,_,_,_,_]) (i:=8) _ (a5.trans e)
 ·refine aC h.ownN fun k e=>sA k (h.nLt e).2 (h.ne k e) (by have:=h.nLt e;omega)
 ·obtain⟨cs,hr,hf⟩:=ho;refine⟨cs,aC hr fun k e=>?_,Flat.moves aN.moves ⟨Tdi,fun b hb ho=>⟨?_,?_⟩⟩ _ _ hf⟩
  ·refine bw _ _ _ _ (show k≠bb from ?_);rcases TN k e with q|q
   ·exact hne k q
   omega
  ·exact gw b (cC ho.2 hN) ho.1
  exact bw _ _ _ _ (show b≠bb from by have:=ho.1.1;omega)
 ·rcases TN k e' with q|q
  ·exact h.ne k e q
  have:=h.nLt e;omega
 ·have:=(h.xlt k hx).2;simp[AF];omega
 ·rcases TN k e with q|q
  ·exact h.xv k q
  exact fun hx=>by have:=(h.xlt k hx).2;omega
 refine cR.setCell (p:=⟨bb,8,VX⟩) ⟨hg.os,hg.tape,hg.output,hg.size,fun k hk hn=>hg.block k hk (fun e=>hn (.inr (.inr (.inr e.symm))))⟩ (.inl (.inr (.inl lX))) _
structure jN{α:Type}(V:jx α)(sz:Nat)(e:TypeId)(B:Nat)(ok:LN)(w:H7)(v:zY)(l:wy α)(p:α)(u:RH)(gb cap:Nat)(w':H7):Prop where
 own:bF V sz e B ok w' (FG (Vv gb) (l.length+1) cap) (l++[p])
 grown:w.grownBy w' v.ownBlock
 at':v.ownBlock=Vv gb\/gb=w.heap.size
 last:∀(j:Nat) (y:zY),u[j]?=Vv y->w'.cell? (gb,l.length*sz+j)=Vv y
def nS{V:jx α}(hV:Moves V)(hu:prog.underlying t=Vv (.slice e))(hi:prog.info? e=Vv i0)(hz:i0.zero=Vv z)(a5:i0.size=sz)(ae:i0.bytes=qS)(af:z.cells.size=sz)(zc:0<sz)(Hv:qS<=1000)
  {w:H7} (B:Nat) (ok:LN) (v:zY) (l:wy α) (p:α) (a7:bF V sz e B ok w v l) (g c:Nat) (u:RH)
  (ez:u.length=sz) (ag:V ok w u p) (ab:∀z∈u,z.oneCell'=VR) (hc:∀(j:Nat) (y:zY),u[j]?=Vv y->w.cell? (g,j)=Vv y) (hl:l.length<=1000000) (hB:B<=w.1.size)
  (gw:∀b,v.ownBlock=Vv b->¬ok b) :
  ∃gb cap w',(Builtin.append_ #[t,t] ty #[v,FG (Vv g) 1 c]).run prog w=.ok (FG (Vv ⟨gb,0,VX⟩) (l.length+1) cap) w'/\jN V sz e B ok w v l p u gb cap w':=by
 obtain⟨cs,a8,hf⟩:=a7;obtain⟨v',w',hr,a9,aa,_,hat⟩:=run_append_own_at (P:=prog) w B t ty e i0 z sz qS hu hi hz a5 ae af zc v l.length cs a8 ⟨g,0,VX⟩ 1 c u WQ (fun j y hy=>by
  rw[iz,eJ];exact hc j y hy) ab Tdh Te3 hB
 have hm:Mv ok ok w w':=⟨aa.size,fun b hb gR=>⟨gR,aa.block b hb (fun e=>gw b e.symm gR)⟩⟩;have ah:cs.length=l.length*sz:=Flat.length _ _ hf;have h1:bF V sz e B ok w' v' (l++[p]):=⟨cs++u,by rw[cD];exact a9,(Flat.one ez (hV.mv hm ag) ab).append _ _ (Flat.moves hV hm _ _ hf)⟩;have ai:=a9.2;rcases ai with⟨_,hn⟩|⟨gb,cap,aj,rfl,hb,hg,vr,hcm,ak,ht⟩
 ·omega
 refine⟨gb,cap,w',hr,h1,aa,?_,fun j y hy=>?_⟩
 ·rcases hat with q|q
  ·exact .inl q.symm
  injection q with q;exact .inr q
 have hj:j<sz:=by rw[<- ez];exact(AT.1 hy).1
 rw[a9.cellAt (l.length*sz+j) (by rw[P7];omega),Cp WQ,ah,Nat.add_sub_cancel_left];exact hy
def dX{V:jx α}(hV:Moves V)(hu:prog.underlying t=Vv (.slice e))(hi:prog.info? e=Vv i0)(hz:i0.zero=Vv z)(a5:i0.size=sz)(a8:i0.bytes=qS)(a9:z.cells.size=sz)(zc:0<sz)(Hv:qS<=1000)
  {w:H7} {ops:Array Oper} {rest:wy Oper} {o:Oper} {a:Act} {Q:N2} (aa:o.guard=VX) 
  (ho:o.op=.call { callee:=.builtin .append,args:=#[s,x],argTypes:=#[t,t] })
  (B:Nat) (ok:LN) (v:zY) (l:wy α) (p:α) (hs:a.eval s=v) (a7:bF V sz e B ok w v l) (g c:Nat) (u:RH) (hx:a.eval x=FG (Vv g) 1 c)
  (ez:u.length=sz) (ab:V ok w u p) (ae:∀z∈u,z.oneCell'=VR) (hc:∀(j:Nat) (y:zY),u[j]?=Vv y->w.cell? (g,j)=Vv y) (hl:l.length<=1000000) (hB:B<=w.1.size)
  (gw:∀b,v.ownBlock=Vv b->¬ok b)
  (h:∀gb cap w',jN V sz e B ok w v l p u gb cap w'->wpList prog ops Q rest (a.put o.dst (FG (Vv ⟨gb,0,VX⟩) (l.length+1) cap)) w'):wpList prog ops Q (o :: rest) a w:=by
 refine wpList_plain aa fun K hK=>?_;obtain⟨gb,cap,w',hr,hp⟩:=nS (ty:=o.type) hV hu hi hz a5 a8 a9 zc Hv B ok v l p a7 g c u ez ab ae hc hl hB gw;unfold Oper.wp execOp;simp only[ho,resolve,invoke,builtin,Sem.run_bind,Sem.run_pure,ud,tS,iu,List.map_nil,hs,hx,hr];exact hK _ _ (h gb cap w' hp)
def mU{V:jx α}(hV:Moves V)(hu:prog.underlying t=Vv (.slice e))(hi:prog.info? e=Vv i0)(hz:i0.zero=Vv z)(a5:i0.size=sz)(a8:i0.bytes=qS)(a9:z.cells.size=sz)(zc:0<sz)(Hv:qS<=1000)
  {o:Oper} {dd:Tmp} {a:Act} {w:H7}  {Q:N2}
  (aa:o.dst=Vv dd)  (ab:o.op=Op.call { callee:=Callee.builtin Builtin.append,args:=#[s,x],argTypes:=#[t,t] })
  (B:Nat) (ok:LN) (v:zY) (l:wy α) (p:α) (hs:a.eval s=v) (a7:bF V sz e B ok w v l) (g c:Nat) (u:RH) (hx:a.eval x=FG (Vv g) 1 c)
  (ez:u.length=sz) (ae:V ok w u p) (af:∀z∈u,z.oneCell'=VR) (hc:∀(j:Nat) (y:zY),u[j]?=Vv y->w.cell? (g,j)=Vv y) (hl:l.length<=1000000) (hB:B<=w.1.size)
  (gw:∀b,v.ownBlock=Vv b->¬ok b)
  (hK:∀gb cap w',jN V sz e B ok w v l p u gb cap w'->K (a.put (Vv dd) (FG (Vv ⟨gb,0,VX⟩) (l.length+1) cap)) w'):Oper.wp prog o a w K Q:=by
 obtain⟨gb,cap,w',hr,hp⟩:=nS (ty:=o.type) hV hu hi hz a5 a8 a9 zc Hv B ok v l p a7 g c u ez ae af hc hl hB gw;unfold Oper.wp;simp[execOp,ab,resolve,invoke,builtin,hs,hx,hr,Result.andThen];show K (a.put o.dst _) w';rw[aa];exact hK gb cap w' hp
def eW.okNew(h:eW X w bs bb nv vv g next){k:Nat}(hk:w.1.size<=k):ZQ X bb nv vv k :=
 ⟨by have:=h.Gj;omega,fun e=>by have:=h.nLt e;omega,fun e=>by have:=h.vLt e;omega,fun hx=>by have:=h.xlt k hx;omega⟩
def ck.one{V:jx α}{ok:LN}{x:α}(hb:w.1[b]?=Vv (Sx u.toArray t (0,0)))(ho:ok b)(hu:u.length=sz)(hv:V ok w u x):ck V sz ok w [FG (Vv b) 1 1] [x]:=by
 refine⟨Vv ⟨b,0,VX⟩,1,rfl,XN,WQ,fun _=>⟨b,0,rfl,aq hb,ho,fun i y hy=>?_⟩⟩
 match i,hy with
 |0,hy =>
  simp at hy;subst hy;refine⟨u,hu,hv,fun j z hz=>?_⟩;simp[AN,hb,hz]
 |i+1,hy=>simp at hy
def ck.nil{V:jx α}{ok:LN}:ck V sz ok w [FG VX 0 0] []:=⟨VX,0,rfl,XN,WQ,fun h=>absurd h XN⟩
def eW.ready(h:eW X w bs bb nv vv g next)(hp:aN (ZQ X bb nv vv) w u p)(w1:H7)(hb:Below w.1.size w w1) :
  bF aN 6 46 (bb+1) (fun b=>ZQ X bb nv vv b/\b<w.1.size) w1 vv g.F9/\aN (fun b=>ZQ X bb nv vv b/\b<w.1.size) w1 u p:=by
 have hm:Mv (ZQ X bb nv vv) (fun b=>ZQ X bb nv vv b/\b<w.1.size) w w1:=⟨hb.size,fun b a5 ho=>⟨⟨ho,a5⟩,hb.block b a5⟩⟩;obtain⟨cs,ho,hf⟩:=h.ownV;exact⟨⟨cs,eF ho fun k _ h2=>hb.block k h2,Flat.moves aN.moves hm _ _ hf⟩,aN.moves.mv hm hp⟩
def H8 :∀b,vv.ownBlock=Vv b->¬(ZQ X bb nv vv b/\b<N):=fun _ e ho=>ho.1.2.2.1 e
def eW.pushKeeps(h:eW X w bs bb nv vv g next)(hb:Below w.1.size w w1)(hp:jN aN 6 46 (bb+1) (fun b=>ZQ X bb nv vv b/\b<N) w1 vv g.F9 p u gb cap w2) :
  w2.1[bb]?=w.1[bb]?/\∀k,X k->w2.1[k]?=w.1[k]?:=by
 have hbl:=h.Gj;refine⟨(hp.grown.block bb (cC hbl hb.size) (fun e=>by have:=h.vLt e.symm;omega)).trans (hb.block bb hbl),fun k hk=>?_⟩;have a5:=(h.xlt k hk).2;exact(hp.grown.block k (cC a5 hb.size) (fun e=>h.xv k e.symm hk)).trans (hb.block k a5)
def aH.push{rK rN:zY}(h:aH X bs bb rK rN w0 w nv vv g next)(hb:Below w.1.size w w1)(hp:jN aN 6 46 (bb+1) (fun b=>ZQ X bb nv vv b/\b<N) w1 vv g.F9 p u gb cap w2)(hN:N<=w.1.size) :
  aH X bs bb rK rN w0 (w2.setCell (XM bb 8) (FG (Vv gb) (Wq g.F9+1) cap)) nv (FG (Vv gb) (Wq g.F9+1) cap) { g with F9:=g.F9++[p] } next:=by
 have h1:=h.after hb;refine h1.trans (h1.bld.pushVol hp.own (cA hN hb.size) hp.grown ?_);rcases hp.at' with q|q
 ·exact .inl q.symm
 exact .inr (by rw[q];rfl)
def Tak :Tab #[By ⟨#[]⟩,Bm U8 0,Ft VN,Ft VN,FG VX 0 0,FG VX 0 0]:=⟨⟩
def zT:(prog.info? 46).map (fun i=>(i.zero,i.size,i.bytes))=Vv (Vv (Tk Tak),6,80):=by kernel_rfl
def Tav :Tab #[Bm Sj 0,Bm Sj 0,Bm Sj 0,FG VX 0 0,Bm Sj 0,FG VX 0 0,By ⟨#[]⟩,By ⟨#[]⟩,Bm Sj 0,Bm Sj 0,Bm Sj 0]:=⟨⟩
def Am:(prog.info? 55).map (fun i=>(i.zero,i.size,i.bytes))=Vv (Vv (Tk Tav),11,136):=by kernel_rfl
def kL:(prog.info? 53).map (fun i=>(i.zero,i.size,i.bytes))=Vv (Vv (Tk Tau),3,32):=by kernel_rfl
section
variable {P:Program}{ops:Array Oper}{Q:N2}{md:Region.Mode}{S:H7->Prop}{m:Nat}{N:Nat->Bool}
variable {a a0:Act}{w:H7}{listed:Array Bool}{j i t fuel:Nat}{oi:Oper}{v:zY}{d:Tmp}{ws:wy Nat}{l:wy Oper}{F:Nat->(Nat->zY)->H7->Prop}{C:(Nat->Bool)->H7->Prop}{Ev:Nat->H7->H7->Prop}{idx:wy (Nat × Nat)}{p:Nat × Nat}{ag:Nat->wy Nat}
def bG(P:Program)(md:Region.Mode)(ops:Array Oper)(Q:N2)(S:H7->Prop)(N:Nat->Bool):Nat->Array Bool->Act->H7->Prop
 |0,listed,a,w=>BE md ops listed=[]/\Q .normal a w
 |fuel+1,listed,a,w =>
  (BE md ops listed=[]->Q .normal a w) /\
  ∀i∈BE md ops listed,wpOp P ops Q i (fun a' w'=>(N i=VR->S w')/\bG P md ops Q S N fuel (listed.setIfInBounds i VR) a' w') a w
def mF:∀(fuel:Nat) (listed:Array Bool) (a:Act) (w:H7),bG P md ops Q S N fuel listed a w->wpAny P md ops Q fuel listed a w
 |0,_,_,_,h=>h
 |fuel+1,_,_,_,h=>⟨h.1,fun i hi=>wpOp_mono (fun a' w' h'=>mF fuel _ a' w' h'.2) (h.2 i hi)⟩
def needs(m:Nat)(ws:wy Nat):Nat->Bool:=fun i=>V7 (i<m)&&!ws.contains i
theorem gW{id:Nat}(S:H7->Prop)(m:Nat)(ws:wy Nat)(hm:P.follows .mixedOrders=VR)(hS:S w.drew)
  (h:S w.drew->bG P .any ops Q S (needs m ws) ops.size (GW ops.size VN) a w.drew):(Code.region id ops VR).wp P Q a w :=
 wp_region_any hm (mF _ _ _ _ (h hS))
def Clo(md:Region.Mode)(ops:Array Oper)(listed:Array Bool):Prop:=∀(j:Nat) (oj:Oper),ops[j]?=Vv oj->listed.getD j VN=VR->∀e∈oj.after,EV md e=VR->listed.getD e.on VN=VR
def BF(md:Region.Mode)(ops:Array Oper)(listed:Array Bool):Bool:=(FF ops.size).all fun j=>match ops[j]? with
 |some oj=>!listed.getD j VN||oj.after.all fun e=>!Region.binds md e||listed.getD e.on VN
 |none=>VR
def oK(h:BF md ops listed=VR):Clo md ops listed:=fun j oj hj hl e he hb=>by
 have:=An.1 h j (DP.2 (F1.1 hj).1);simp only[hj,hl,Bool.not_true,nj]at this;have:=Array.all_eq_true_iff_forall_mem.1 this e he;simpa[hb]using this
def Clo.set(h:Clo md ops listed)(hj:j∈BE md ops listed):Clo md ops (listed.setIfInBounds j VR):=fun k ok hk hl e he hb=>by
 by_cases hjk:j=k
 ·subst hjk;obtain⟨_,o,ho,hall⟩:=mem_ready.1 hj;rw[hk]at ho;injection ho with ho;subst ho;exact getD_set_true (hall e he hb)
 rw[ly VN hjk]at hl;exact getD_set_true (h k ok hk hl e he hb)
def ky(md:Region.Mode)(ops:Array Oper):Nat->Nat->Nat->Bool
 |0,_,_=>VN
 |f+1,t,i=>NO md ops t i||(match ops[t]? with
  |some o=>o.after.any fun e=>EV md e&&ky md ops f e.on i
  |none=>VN)
def mP(hc:Clo md ops listed):∀(f t:Nat) (o:Oper),ops[t]?=Vv o->(∀e∈o.after,EV md e=VR->listed.getD e.on VN=VR)->ky md ops f t i=VR->listed.getD i VN=VR
 |0,_,_,_,_,h=>by cases h
 |f+1,t,o,ho,hall,h=>by
  simp only[ky,ho,tG]at h;rcases h with h|h
  ·obtain⟨ot,a5,e,he,hb,a7⟩:=A5 h;rw[ho]at a5;injection a5 with a5;subst a5;rw[<- a7];exact hall e he hb
  obtain⟨k,hk,h2⟩:=Array.any_eq_true.1 h;simp only[eh]at h2;have hl:=hall _ (Array.getElem_mem hk) h2.1;cases UX:ops[(o.after[k]).on]? with
  |none =>
   cases f with
   |zero=>simp[ky]at h2
   |succ f=>simp[ky,UX,NO]at h2
  |some oe=>exact mP hc f _ oe UX (hc _ oe UX hl) h2.2
def nW{f:Nat}(hc:Clo md ops listed)(hw:ky md ops f t i=VR)(hi:listed.getD i VR=VN):t ∉ BE md ops listed:=fun ht=>by
 obtain⟨_,o,ho,hall⟩:=mem_ready.1 ht;have h1:=mP hc f t o ho hall hw;rw[getD_both hi]at h1;cases h1
def lM(md:Region.Mode)(ops:Array Oper)(N:Nat->Bool)(listed:Array Bool)(i:Nat):Bool:=(FF ops.size).all fun t=>N t||listed.getD t VR||ky md ops ops.size t i
def Gs(h:lM md ops N listed i=VR)(ht:N t=VN)(hs:t<ops.size)(hu:listed.getD t VR=VN):ky md ops ops.size t i=VR:=by
 have:=An.1 h t (DP.2 hs);simp only[ht,hu,nj]at this;exact this
def uJ(h:lM md ops N listed i=VR):lM md ops N (listed.setIfInBounds j VR) i=VR:=by
 refine An.2 fun t ht=>?_;have:=An.1 h t ht;simp only[tG]at this ⊢;rcases this with(q|q)|q
 ·exact .inl (.inl q)
 ·refine .inl (.inr ?_);by_cases e:j=t
  ·subst e;by_cases hs:j<listed.size
   ·simp[hs]
   simp[]
  rw[ly VR e];exact q
 exact .inr q
def mV(h:j∈BE md ops listed):j<ops.size:=by
 obtain⟨_,o,ho,_⟩:=mem_ready.1 h;exact(F1.1 ho).1
def uN(hi:ops[i]?=Vv oi)(mj:∀(j:Nat) (o:Oper) cs b,ops[j]?=Vv o->o.op≠.select cs b)
  (hQ:∀c a w,Q (.panic c) (a.put oi.dst v) w->Q (.panic c) a w) :
  ∀(fuel:Nat) (listed:Array Bool) (a:Act) (w:H7),lM md ops N listed i=VR ->
   (∀j oj,ops[j]?=Vv oj->j≠i->listed.getD j VR=VN->(∀e∈oj.after,EV md e=VR->e.on≠i)->oi.apart ops oj=VR) ->
   Clo md ops listed->i∈BE md ops listed->YieldsIf P ops S oi v a->S w ->
   bG P md ops Q S N fuel (listed.setIfInBounds i VR) (a.put oi.dst v) w->bG P md ops Q S N (fuel+1) listed a w:=by
 intro fuel;induction fuel with
 |zero =>
  intro listed a w _ _ _ hr hy hS H;refine⟨fun h=>Tdv,fun j hj=>?_⟩;by_cases nr:j=i
  ·subst nr;exact hy.wpOp hi hS ⟨fun _=>hS,H⟩
  have:=ix hj nr;rw[H.1]at this;cases this
 |succ fuel ih =>
  intro listed a w hl Uy hc hr hy hS H;have pN:=(mem_ready.1 hr).1;refine⟨fun h=>Tdv,fun j hj=>?_⟩;by_cases nr:j=i
  ·subst nr;exact hy.wpOp hi hS ⟨fun _=>hS,H⟩
  have UY:N j=VR:=by
   cases hN:N j with
   |true=>rfl
   |false=>exact absurd hj (nW hc (Gs hl hN (mV hj) (mem_ready.1 hj).1) pN)
  have h1:=H.2 j (ix hj nr);obtain⟨zj,oj,F0,hall⟩:=mem_ready.1 hj;have a5:∀e∈oj.after,EV md e=VR->e.on≠i:=fun e he hb heq=>by
   have h1:=hall e he hb;rw[heq,getD_both pN]at h1;cases h1
  have h2:=wpOp_putIf F0 (Uy j oj F0 nr zj a5) (fun cs b=>mj i oi cs b hi) (fun cs b=>mj j oj cs b F0) hQ hy h1;have pP:∀k ok,ops[k]?=Vv ok->k≠i->(listed.setIfInBounds j VR).getD k VR=VN ->
    (∀e∈ok.after,EV md e=VR->e.on≠i)->oi.apart ops ok=VR:=fun k ok hk a7 pN hno=>by
   refine Uy k ok hk a7 ?_ hno;by_cases hjk:j=k
   ·subst hjk;exact zj
   rw[ly VR hjk]at pN;exact pN
  refine wpOp_mono (fun a' w' h3=>⟨h3.2.1,ih (listed.setIfInBounds j VR) a' w' (uJ hl) pP (hc.set hj) (ix hr (Ne.symm nr)) h3.1 (h3.2.1 UY) ?_⟩) h2;rw[FA _ _ nr];exact h3.2.2
def TdK(h:gt:=by simpa using h3):=h
def o7(hi:ops[i]?=Vv oi)(hd:oi.dst=Vv d)
  (hb:(GS ops&&Is md ops listed i&&(BE md ops listed).contains i&&lM md ops N listed i&&BF md ops listed)=VR)
  (hQ:∀c a w,Q (.panic c) (a.put (Vv d) v) w->Q (.panic c) a w) (hy:YieldsIf P ops S oi v a) (hS:S w)
  (h:bG P md ops Q S N fuel (listed.setIfInBounds i VR) (a.put (Vv d) v) w):bG P md ops Q S N (fuel+1) listed a w:=by
 simp only[eh]at hb;obtain⟨⟨⟨⟨h1,h2⟩,h3⟩,h4⟩,h5⟩:=hb;rw[<- hd]at hQ h;exact uN hi (XS h1) hQ fuel listed a w h4 (Region.free_spec hi h2) (oK h5) TdK hy hS h
def sG(hi:ops[i]?=Vv oi)(mj:∀(j:Nat) (o:Oper) cs b,ops[j]?=Vv o->o.op≠.select cs b)
  (hN:N i=VN) (hQ:∀c a w,Q (.panic c) (a.put oi.dst v) w->Q (.panic c) a w) :
  ∀(fuel:Nat) (listed:Array Bool) (a:Act) (w:H7),
   (∀j oj,ops[j]?=Vv oj->j≠i->listed.getD j VR=VN->(∀e∈oj.after,EV md e=VR->e.on≠i)->oi.apart ops oj=VR) ->
   i∈BE md ops listed->YieldsIf P ops (fun _=>True) oi v a ->
   bG P md ops Q S N fuel (listed.setIfInBounds i VR) (a.put oi.dst v) w->bG P md ops Q S N (fuel+1) listed a w:=by
 have hv:∀w:H7,N i=VR->S w:=fun w h=>by rw[hN]at h;cases h
 intro fuel;induction fuel with
 |zero =>
  intro listed a w _ hr hy H;refine⟨fun h=>Tdv,fun j hj=>?_⟩;by_cases nr:j=i
  ·subst nr;exact hy.wpOp hi trivial ⟨hv _,H⟩
  have:=ix hj nr;rw[H.1]at this;cases this
 |succ fuel ih =>
  intro listed a w Uy hr hy H;have pN:=(mem_ready.1 hr).1;refine⟨fun h=>Tdv,fun j hj=>?_⟩;by_cases nr:j=i
  ·subst nr;exact hy.wpOp hi trivial ⟨hv _,H⟩
  have h1:=H.2 j (ix hj nr);obtain⟨zj,oj,F0,hall⟩:=mem_ready.1 hj;have a5:∀e∈oj.after,EV md e=VR->e.on≠i:=fun e he hb heq=>by
   have h1:=hall e he hb;rw[heq,getD_both pN]at h1;cases h1
  have h2:=wpOp_putIf F0 (Uy j oj F0 nr zj a5) (fun cs b=>mj i oi cs b hi) (fun cs b=>mj j oj cs b F0) hQ hy h1;have pP:∀k ok,ops[k]?=Vv ok->k≠i->(listed.setIfInBounds j VR).getD k VR=VN ->
    (∀e∈ok.after,EV md e=VR->e.on≠i)->oi.apart ops ok=VR:=fun k ok hk a7 pN hno=>by
   refine Uy k ok hk a7 ?_ hno;by_cases hjk:j=k
   ·subst hjk;exact zj
   rw[ly VR hjk]at pN;exact pN
  refine wpOp_mono (fun a' w' h3=>⟨h3.2.1,ih (listed.setIfInBounds j VR) a' w' pP (ix hr (Ne.symm nr)) h3.1 ?_⟩) h2;rw[FA _ _ nr];exact h3.2.2
def nz(hi:ops[i]?=Vv oi)(hd:oi.dst=Vv d)
  (hb:(GS ops&&Is md ops listed i&&(BE md ops listed).contains i&&!N i)=VR)
  (hQ:∀c a w,Q (.panic c) (a.put (Vv d) v) w->Q (.panic c) a w) (hy:YieldsIf P ops (fun _=>True) oi v a)
  (h:bG P md ops Q S N fuel (listed.setIfInBounds i VR) (a.put (Vv d) v) w):bG P md ops Q S N (fuel+1) listed a w:=by
 simp only[eh,tz]at hb;obtain⟨⟨⟨h1,h2⟩,h3⟩,h4⟩:=hb;rw[<- hd]at hQ h;exact sG hi (XS h1) h4 hQ fuel listed a w (Region.free_spec hi h2) TdK hy h
def gM:∀(l:wy Oper) (k:Nat) (listed:Array Bool) (a:Act) (w:H7),(∀t,k<=t->N t=VN)->(∀j,l[j]?=ops[k+j]?) ->
  KK md ops l.length k listed=VR->wpList P ops Q l a w->bG P md ops Q S N l.length listed a w
 |[],_,_,_,_,_,_,hB,h=>⟨by simpa[KK]using hB,h⟩
 |o :: l,k,listed,a,w,hm,hl,hB,h=>by
  have h0:ops[k]?=Vv o:=by simpa using(hl 0).symm
  simp only[cS,KK,eh,fk]at hB;refine⟨fun h1=>(by rw[hB.1]at h1;cases h1),fun i hi=>?_⟩;rw[hB.1]at hi;have a5:i=k:=by simpa using hi
  subst a5;have hw:wpOp P ops Q i (wpList P ops Q l) a w:=by unfold wpOp;simp only[h0];exact h
  exact wpOp_mono (fun a' w' h'=>⟨fun h=>(by rw[hm i (bk _)]at h;cases h),gM l (i+1) _ a' w' (fun t ht=>hm t WQ) (fun j=>by have:=hl (j+1);simpa[Nat.add_assoc,Nat.add_comm 1 j]using this) hB.2 h'⟩) hw
def Tcu(h:gt:=by
 unfold wpOp;simp only[hi,hw,ej];exact .inl (h _ (aa fun a' w' h1 h2=>⟨fun _=>h1,h2⟩))):=h
def TdI(h:gt:=by rw[hr]at h0;cases h0):=h
def au{o:Oper}(hi:ops[i]?=Vv o)(hg:o.guard=VX)(hr:BE md ops listed=[i])
  (h:∀K:Act->H7->Prop,Hid (∀a' w',S w'->bG P md ops Q S N fuel (listed.setIfInBounds i VR) a' w'->K a' w')->o.wp P a w K Q):bG P md ops Q S N (fuel+1) listed a w:=by
 refine⟨fun h0=>TdI,fun j hj=>?_⟩;rw[hr]at hj;obtain rfl:j=i:=by simpa using hj
 have hw:Cd o (yielded ops a.tmps)=VR:=by simp[Cd,hg]
 exact Tcu
def qJ :∀t,m<=t->needs m ws t=VN:=fun t ht=>by simp[needs];omega
def aP(hB:KK md l.toArray (l.toArray.size-m) m listed=VR)(hf:fuel=(l.drop m).length)(h:wpList P l.toArray Q (l.drop m) a w):bG P md l.toArray Q S (needs m ws) fuel listed a w:=by
 rw[hf];exact gM (l.drop m) m listed a w qJ (fun j=>by simp[pk]) (by simpa using hB) h
def over(a:Act)(js:wy (Nat × Nat))(vs:Nat->zY):Act:=js.foldl (fun a p=>a.put (Vv p.2) (vs p.1)) a
def dW(a:Act)(p:Nat × Nat)(js:wy (Nat × Nat))(vs:Nat->zY):over a (p :: js) vs=over (a.put (Vv p.2) (vs p.1)) js vs:=rfl
def Cn{d:Nat}{v:zY}:∀a:Act,(∀p∈js,p.2≠d)->over (a.put (Vv d) v) js vs=(over a js vs).put (Vv d) v:=by
 induction js with
 |nil=>intro a _;rfl
 |cons p js ih =>
  intro a h;rw[dW,dW,<- ih _ (fun q hq=>h q (kn _ hq)),Act.put_comm a v (vs p.1) (fun e he=>by
   injection he with he;subst he;intro hc;injection hc with hc;exact h p (cG ..) hc)]
def zx{us:Nat->zY}:∀a:Act,(∀p∈js,vs p.1=us p.1)->over a js vs=over a js us:=by
 induction js with
 |nil=>intro a _;rfl
 |cons p js ih =>
  intro a h;rw[dW,dW,h p (cG ..)];exact ih _ fun q hq=>h q (kn _ hq)
def xm(js:wy (Nat × Nat))(vs:Nat->zY):∀a:Act,over a js vs={ a with tmps:=(over a js vs).tmps }:=by
 induction js with
 |nil=>intro a;rfl
 |cons p js ih =>
  intro a;rw[dW,ih];rfl
def mE(js:wy (Nat × Nat))(vs:Nat->zY)(t:Nat):∀a:Act,(∀p∈js,p.2≠t)->(over a js vs).eval (.tmp t)=a.eval (.tmp t):=by
 induction js with
 |nil=>intro a _;rfl
 |cons p js ih =>
  intro a h;rw[dW,ih _ fun q hq=>h q (kn _ hq)];exact Act.eval_put fun d hd he=>by
   injection hd with hd;injection he with he;exact h p (cG ..) (hd.trans he.symm)
def zN(vs:Nat->zY)(p:Nat × Nat):∀a:Act,(js.map (·.2)).Nodup->p∈js->(over a js vs).eval (.tmp p.2)=(a.put (Vv p.2) (vs p.1)).eval (.tmp p.2):=by
 induction js with
 |nil=>intro a _ h;cases h
 |cons q js ih =>
  intro a hn h;rw[iu,List.nodup_cons]at hn;rw[dW];rcases DQ.1 h with rfl|h1
  ·exact mE js vs p.2 _ fun r hr e=>hn.1 (As.2 ⟨r,hr,e⟩)
  have hne:q.2≠p.2:=fun e=>hn.1 (As.2 ⟨p,h1,e.symm⟩)
  rw[ih _ hn.2 h1,Act.put_comm a (vs q.1) (vs p.1) (fun d hd hc=>by
   injection hd with hd;injection hc with hc;exact hne (hd.trans hc.symm))]
  exact Act.eval_put fun d hd he=>by
   injection hd with hd;injection he with he;exact hne (hd.trans he.symm)
def TdZ(h:gt:=by simp[hq]):=h
def xc(vs:Nat->zY)(p:Nat × Nat)(v:zY)(f:Nat->Bool)(hf:f p.1=VN):∀(js:wy (Nat × Nat)) (a:Act),(js.map (·.2)).Nodup->(js.map (·.1)).Nodup->p∈js ->
  over a (js.filter fun q=>f q.1||q.1==p.1) (fun k=>if k=p.1 then v else vs k)=(over a (js.filter fun q=>f q.1) vs).put (Vv p.2) v:=by
 intro js;induction js with
 |nil=>intro a _ _ h;cases h
 |cons q js ih =>
  intro a hn hk h;rw[iu,List.nodup_cons]at hn hk;rcases DQ.1 h with rfl|h1
  ·have e1:js.filter (fun q=>f q.1||q.1==p.1)=js.filter (fun q=>f q.1):=A0 fun r hr=>by
    have:r.1≠p.1:=fun e=>hk.1 (As.2 ⟨r,hr,e⟩);simp[this]
   rw[E1 XN,ae7 (by simp[hf]),dW,e1,Cn _ (fun r hr e=>hn.1 (As.2 ⟨r,(DS.1 hr).1,e⟩))];simp only[ej];rw[zx (us:=vs) _ fun r hr=>bh fun e=>hk.1 (As.2 ⟨r,(DS.1 hr).1,e⟩)]
  have Qa:q.1≠p.1:=fun e=>hk.1 (As.2 ⟨p,h1,e.symm⟩)
  by_cases hq:f q.1=VR
  ·rw[E1 TdZ,E1 (p:=fun(q:Nat × Nat)=>f q.1) hq,dW,dW,bh Qa];exact ih _ hn.2 hk.2 h1
  rw[ae7 (by simp[hq,Qa]),ae7 (p:=fun(q:Nat × Nat)=>f q.1) hq];exact ih _ hn.2 hk.2 h1
def mI(ops:Array Oper)(i:Nat)(p:Nat × Nat):Bool:=match ops[i]? with
 |some o=>(o.looksAt ops).contains p.2
 |none=>VN
def uo(js:wy (Nat × Nat))(vs:Nat->zY):∀a:Act,(over a js vs).tmps.size=a.tmps.size:=by
 induction js with
 |nil=>intro a;rfl
 |cons p js ih =>
  intro a;rw[dW,ih];simp[Act.put]
def Ck{o:Oper}{b:Act}{G:zY->H7->Prop}(he:execOp a.eval o=execOp b.eval o)(zc:a.tmps.size=b.tmps.size)(hQ:∀c w,Q (.panic c) b w->Q (.panic c) a w)
  (h:o.wp P b w (fun a' w'=>∃v,a'=b.put o.dst v/\G v w') Q):o.wp P a w (fun a' w'=>∃v,a'=a.put o.dst v/\G v w') Q:=by
 have inj:∀(u:zY) (w:H7),(∃v,b.put o.dst u=b.put o.dst v/\G v w)->∃x,a.put o.dst u=a.put o.dst x/\G x w:=fun u w ⟨v,e,g⟩=>by
  refine⟨v,?_,g⟩;cases hd:o.dst with
  |none=>rfl
  |some d =>
   rw[hd]at e;simp only[Act.put,Act.mk.injEq,and_true]at e ⊢;by_cases hlt:d<b.tmps.size
   ·have:=fj (fun t=>t[d]?) e;simp[hlt]at this;rw[this]
   rw[Array.setIfInBounds_eq_of_size_le (by rw[zc];exact Nat.le_of_not_lt hlt),Array.setIfInBounds_eq_of_size_le (by rw[zc];exact Nat.le_of_not_lt hlt)]
 unfold Oper.wp at *;rw[he];generalize (execOp b.eval o).run P w=r at *;cases r with
 |ok n w' =>
  cases n<;>simp only[Oper.upon]at h ⊢
  case value u=>exact inj u w' h
  case skip=>exact inj undef w' h
  case defer d =>
   obtain⟨v,e,_⟩:=h;have:=fj Act.defers e;exfalso
   cases hd:o.dst<;>rw[hd]at this<;>simp[Act.put]at this
  case enter f args =>
   refine Calls.mono h fun e a5 he=>?_;cases e with
   |returned u=>exact inj u a5 he
   |panicked c=>exact hQ _ _ he
   |outgrown=>exact he
  case row row args=>exact Rows.mono h fun u a5 he=>inj u a5 he
 |halt x w' =>
  cases x<;>simp only[Oper.upon]at h ⊢
  case panic u=>exact hQ _ _ h
def zF(md:Region.Mode)(ops:Array Oper)(m:Nat)(idx:wy (Nat × Nat))(ag:Nat->wy Nat)(listed:Array Bool):Bool :=
 GS ops&&V7 (listed.size=ops.size)&&V7 (m<=ops.size) &&
 idx.all (fun p=>V7 (p.1<m)&&!listed.getD p.1 VR&&(match ops[p.1]? with
  |some o=>o.guard.isNone&&o.dst==Vv p.2
  |none=>VN)) &&
 V7 (idx.map (·.1)).Nodup&&V7 (idx.map (·.2)).Nodup &&
 (FF ops.size).all (fun t=>if t<m then listed.getD t VN||idx.any (fun p=>p.1==t) else !listed.getD t VR) &&
 idx.all (fun p=>idx.all fun q=>!mI ops p.1 q||NO md ops p.1 q.1) &&
 idx.all (fun p=>(ag p.1).all fun k=>k==p.1||idx.any (fun q=>q.1==k&&mI ops p.1 q)) &&
 idx.all (fun p=>lM md ops (fun t=>V7 (t<m)) listed p.1)&&BF md ops listed &&
 (FF ops.size).all (fun t=>match ops[t]? with
  |some o=>o.after.all fun e=>!Region.binds md e||decide (e.on<t)
  |none=>VR) &&
 KK md ops (ops.size-m) m (Array.ofFn (n:=ops.size) fun t=>V7 (t.1<m))
def kA(P:Program)(ops:Array Oper)(Q:N2)(F:Nat->(Nat->zY)->H7->Prop)(C:(Nat->Bool)->H7->Prop)(Ev:Nat->H7->H7->Prop)(a0:Act)(idx:wy (Nat × Nat)):wy (Nat × Nat)->Prop
 |[]=>True
 |p :: t=>(∀o,ops[p.1]?=Vv o->∀(vs:Nat->zY) (d:Nat->Bool) (w:H7),d p.1=VN->C d w->(∀q∈idx.filter (mI ops p.1),d q.1=VR/\F q.1 vs w) ->
   o.wp P (over a0 (idx.filter (mI ops p.1)) vs) w (fun a' w'=>∃v,a'=(over a0 (idx.filter (mI ops p.1)) vs).put o.dst v/\C (fun j=>d j||j==p.1) w'/\Ev p.1 w w'/\F p.1 (fun k=>if k=p.1 then v else vs k) w') Q)/\kA P ops Q F C Ev a0 idx t
def kA.at :∀ {l:wy (Nat × Nat)},kA P ops Q F C Ev a0 idx l->∀p∈l,∀o,ops[p.1]?=Vv o->∀(vs:Nat->zY) (d:Nat->Bool) (w:H7),d p.1=VN->C d w->(∀q∈idx.filter (mI ops p.1),d q.1=VR/\F q.1 vs w) ->
   o.wp P (over a0 (idx.filter (mI ops p.1)) vs) w (fun a' w'=>∃v,a'=(over a0 (idx.filter (mI ops p.1)) vs).put o.dst v/\C (fun j=>d j||j==p.1) w'/\Ev p.1 w w'/\F p.1 (fun k=>if k=p.1 then v else vs k) w') Q
 |[],_,p,hp=>by cases hp
 |q :: t,h,p,hp=>by
  rcases DQ.1 hp with rfl|h1
  ·exact h.1
  exact kA.at h.2 p h1
def kA.cons{t deps:wy (Nat × Nat)}{o:Oper}(ho:ops[p.1]?=Vv o)(QH:o.dst=Vv p.2)(hd:idx.filter (mI ops p.1)=deps)
  (h:∀(vs:Nat->zY) (d:Nat->Bool) (w:H7),d p.1=VN->C d w->(∀q∈deps,d q.1=VR/\F q.1 vs w)->∀K:Act->H7->Prop,Hid (∀v w',C (fun j=>d j||j==p.1) w'->Ev p.1 w w'->F p.1 (fun k=>if k=p.1 then v else vs k) w'->∀a',a'=(over a0 deps vs).put (Vv p.2) v->K a' w')->o.wp P (over a0 deps vs) w K Q) (ht:kA P ops Q F C Ev a0 idx t):kA P ops Q F C Ev a0 idx (p :: t) :=
 ⟨fun o' a5=>by
  rw[ho]at a5;injection a5 with a5;subst a5;rw[hd];exact fun vs d w h0 hC hF=>h vs d w h0 hC hF _ (aa fun v w' h1 h2 h3 a' e=>⟨v,by rw[QH];exact e,h1,h2,h3⟩),ht⟩
structure EH(md:Region.Mode)(ops:Array Oper)(m:Nat)(idx:wy (Nat × Nat))(ag:Nat->wy Nat):Prop where
 sel:∀(j:Nat) (o:Oper) cs b,ops[j]?=Vv o->o.op≠.select cs b
 le:m<=ops.size
 op:∀p∈idx,p.1<m/\∃o,ops[p.1]?=Vv o/\o.guard=VX/\o.dst=Vv p.2
 n1:(idx.map (·.1)).Nodup
 n2:(idx.map (·.2)).Nodup
 dep:∀p∈idx,∀q∈idx,mI ops p.1 q=VR->NO md ops p.1 q.1=VR
 agr:∀p∈idx,∀k∈ag p.1,k=p.1\/∃q∈idx,q.1=k/\mI ops p.1 q=VR
 late:∀p∈idx,∀t,m<=t->t<ops.size->ky md ops ops.size t p.1=VR
 down:∀(t:Nat) (o:Oper),ops[t]?=Vv o->∀e∈o.after,EV md e=VR->e.on<t
 seq:KK md ops (ops.size-m) m (Array.ofFn (n:=ops.size) fun t=>V7 (t.1<m))=VR
structure EL(md:Region.Mode)(ops:Array Oper)(m:Nat)(idx:wy (Nat × Nat))(listed:Array Bool):Prop where
 size:listed.size=ops.size
 head:∀t,t<m->listed.getD t VN=VR\/∃p∈idx,p.1=t
 tail:∀t,m<=t->t<ops.size->listed.getD t VR=VN
 clo:Clo md ops listed
def xQ(h:zF md ops m idx ag listed=VR):EH md ops m idx ag/\EL md ops m idx listed/\∀p∈idx,listed.getD p.1 VR=VN:=by
 simp only[zF,eh,fk]at h;obtain⟨⟨⟨⟨⟨⟨⟨⟨⟨⟨⟨⟨h1,h2⟩,h3⟩,h4⟩,h5⟩,h6⟩,h7⟩,h8⟩,a5⟩,h9⟩,a7⟩,a8⟩,a9⟩:=h;have k4:=fun p hp=>An.1 h4 p hp;have k7:=fun t ht=>An.1 h7 t (DP.2 ht)
 refine⟨⟨XS h1,h3,fun p hp=>?_,h5,h6,fun p hp q hq hd=>?_,fun p hp k hk=>?_,fun p hp t ht hs=>Gs (An.1 h9 p hp) TdV hs (by
  have:=k7 t hs;simp only[show ¬t<m by omega,fY,tz]at this;exact this),fun t o ho e he hb=>?_,a9⟩,⟨h2,fun t ht=>?_,fun t ht hs=>?_,oK a7⟩,fun p hp=>?_⟩
 ·have:=k4 p hp;simp only[eh,fk]at this;obtain⟨⟨q1,_⟩,q3⟩:=this;refine⟨q1,?_⟩;cases ho:ops[p.1]? with
  |none=>simp[ho]at q3
  |some o =>
   simp[ho]at q3;exact⟨o,rfl,q3.1,q3.2⟩
 ·have:=An.1 (An.1 h8 p hp) q hq;simpa[hd]using this
 ·have:=An.1 (An.1 a5 p hp) k hk;simp only[tG,beq_iff_eq,nh,eh]at this;rcases this with q|⟨q,hq,e,hd⟩
  ·exact .inl q
  exact .inr ⟨q,hq,e,hd⟩
 ·have:=An.1 a8 t (DP.2 (F1.1 ho).1);simp only[ho]at this;have:=Array.all_eq_true_iff_forall_mem.1 this e he;simpa[hb]using this
 ·have:=k7 t WQ;simp only[ht,ej,tG,nh,beq_iff_eq]at this;exact this
 ·have:=k7 t hs;simp only[show ¬t<m by omega,fY,tz]at this;exact this
 have:=k4 p hp;simp only[eh,fk,tz]at this;exact this.1.2
def u7(hw:NO md ops t i=VR)(ht:t∈BE md ops listed):listed.getD i VN=VR:=by
 obtain⟨ot,a5,e,he,hb,a7⟩:=A5 hw;obtain⟨_,o,ho,hall⟩:=mem_ready.1 ht;rw[a5]at ho;injection ho with ho;subst ho;have h1:=hall e he hb;rw[a7]at h1;exact h1
def pW(h:listed.getD i VN=VR):listed.getD i VR=VR:=by
 rcases mm i listed.size with h'|h'
 ·simp[h']at h ⊢;exact h
 simp[xp h']at h
def zX(hi:i<listed.size)(h:listed.getD i VR=VR):listed.getD i VN=VR:=by
 simp[hi]at h ⊢;exact h
def yA(hd:∀(t:Nat) (o:Oper),ops[t]?=Vv o->∀e∈o.after,EV md e=VR->e.on<t)(hs:listed.size=ops.size):∀t,t<ops.size->listed.getD t VR=VN->∃j,j∈BE md ops listed:=by
 intro t;induction t using Nat.strongRecOn with
 |ind t ih =>
  intro ht hu;have ho:ops[t]?=Vv ops[t]:=aa0 ht;by_cases hall:∀e∈ops[t].after,EV md e=VR->listed.getD e.on VN=VR
  ·exact⟨t,mem_ready.2 ⟨hu,_,ho,hall⟩⟩
  simp only[Classical.not_forall]at hall;obtain⟨e,he,hb,hn⟩:=hall;have hlt:=hd t _ ho e he hb;refine ih e.on hlt WQ ?_;cases h:listed.getD e.on VR with
  |false=>rfl
  |true=>exact absurd (zX WQ h) hn
def Bi(hp:p∈idx)(hn:(idx.map (·.1)).Nodup)(hu:listed.getD p.1 VR=VN)(hs:p.1<listed.size) :
  (idx.filter fun q=>!listed.getD q.1 VR).length=(idx.filter fun q=>!(listed.setIfInBounds p.1 VR).getD q.1 VR).length+1:=by
 obtain⟨l1,l2,rfl⟩:=List.append_of_mem hp;rw[gl,iu,List.nodup_append]at hn;obtain⟨_,h2,h3⟩:=hn;rw[List.nodup_cons]at h2;have e1:l1.filter (fun q=>!(listed.setIfInBounds p.1 VR).getD q.1 VR)=l1.filter (fun q=>!listed.getD q.1 VR):=A0 fun q hq=>by
  rw[ly VR (fun e=>h3 q.1 (As.2 ⟨q,hq,rfl⟩) p.1 (cG ..) e.symm)]
 have e2:l2.filter (fun q=>!(listed.setIfInBounds p.1 VR).getD q.1 VR)=l2.filter (fun q=>!listed.getD q.1 VR):=A0 fun q hq=>by
  rw[ly VR (fun e=>h2.1 (As.2 ⟨q,hq,e.symm⟩))]
 have hp1:(listed.setIfInBounds p.1 VR).getD p.1 VR=VR:=by simp[hs]
 rw[List.filter_append,List.filter_append,E1 (by simp only[hu];rfl),ae7 (by simp only[hp1];simp),e1,e2];simp only[cD,cS];omega
theorem oF{tl:wy Oper}(hF:EH md ops m idx ag)(UZ:∀d w,C d w->S w)(hst:∀p∈idx,∀q∈idx,q.1≠p.1->∀(vs us:Nat->zY) w w',(∀k∈ag p.1,us k=vs k)->F p.1 vs w->Ev q.1 w w'->F p.1 us w')
  (hQ:∀c (t t':Array zY) w,Q (.panic c) { a0 with tmps:=t } w->Q (.panic c) { a0 with tmps:=t' } w) (gR:kA P ops Q F C Ev a0 idx idx) (nt:∀j,tl[j]?=ops[m+j]?) (htn:tl.length=ops.size-m)
  (ah:∀(vs:Nat->zY) (d:Nat->Bool) (w:H7),C d w->(∀p∈idx,d p.1=VR/\F p.1 vs w)->wpList P ops Q tl (over a0 idx vs) w) :
  ∀(r:Nat) (L:Array Bool) (vs:Nat->zY) (w:H7),EL md ops m idx L->(idx.filter fun p=>!L.getD p.1 VR).length=r->C (fun j=>L.getD j VR) w->(∀p∈idx,L.getD p.1 VR=VR->F p.1 vs w) ->
   bG P md ops Q S (needs m ws) (r+tl.length) L (over a0 (idx.filter fun p=>L.getD p.1 VR) vs) w:=by
 intro r;induction r with
 |zero =>
  intro L vs w hL hr hC hf;have hall:∀p∈idx,L.getD p.1 VR=VR:=fun p hp=>by
   have h0:=NX.1 (fX hr) p hp;simpa only[Bool.not_eq_true,Bool.not_eq_false']using h0
  have ZH:L=Array.ofFn (n:=ops.size) fun t=>V7 (t.1<m):=by
   apply Array.ext
   ·rw[hL.size,Array.size_ofFn]
   intro t h1 h2;rw[Array.getElem_ofFn];have hs:=hL.size;by_cases ht:t<m
   ·have:L.getD t VR=VR:=by
     rcases hL.head t ht with q|⟨p,hp,rfl⟩
     ·exact pW q
     exact hall p hp
    simpa[h1,ht]using this
   have:=hL.tail t WQ WQ;simpa[h1,ht]using this
  have e:idx.filter (fun p=>L.getD p.1 VR)=idx:=List.filter_eq_self.2 hall;rw[e,eJ];exact gM tl m L _ w qJ nt (by rw[htn,ZH];exact hF.seq) (ah vs _ w hC fun p hp=>⟨hall p hp,hf p hp (hall p hp)⟩)
 |succ r ih =>
  intro L vs w hL hr hC hf;have ai:∃p∈idx,L.getD p.1 VR=VN:=by
   cases hfl:idx.filter (fun p=>!L.getD p.1 VR)with
   |nil=>rw[hfl]at hr;simp at hr
   |cons p t =>
    have hp:p∈idx.filter (fun p=>!L.getD p.1 VR):=by rw[hfl];exact cG ..
    have aa:=DS.1 hp;exact⟨p,aa.1,by simpa only[tz]using aa.2⟩
  obtain⟨p0,ab,ae⟩:=ai;rw[show r+1+tl.length=(r+tl.length)+1 by omega];refine⟨fun h0=>?_,fun i hi=>?_⟩
  ·obtain⟨j,hj⟩:=yA hF.down hL.size p0.1 (cC (hF.op p0 ab).1 hF.le) ae;rw[h0]at hj;cases hj
  have ZI:i<m:=(mm i m).elim id fun h=>absurd hi (nW hL.clo (hF.late p0 ab i h (mV hi)) ae)
  have a5:=(mem_ready.1 hi).1;obtain⟨p,hp,rfl⟩:∃p∈idx,p.1=i:=(hL.head i ZI).resolve_left fun q=>by rw[pW q]at a5;cases a5
  obtain⟨_,o,ho,hg,U0⟩:=hF.op p hp;have a8:∀q∈idx,mI ops p.1 q=VR->L.getD q.1 VR=VR:=fun q hq hd=>pW (u7 (hF.dep p hp q hq hd) hi);have H:=gR.at p hp o ho vs _ w a5 hC fun q hq=>⟨a8 q (DS.1 hq).1 (DS.1 hq).2,hf q (DS.1 hq).1 (a8 q (DS.1 hq).1 (DS.1 hq).2)⟩;have nd:∀f:Nat × Nat->Bool,((idx.filter f).map (·.2)).Nodup:=fun f=>(List.Sublist.map _ List.filter_sublist).nodup hF.n2
  have he:execOp (over a0 (idx.filter fun p=>L.getD p.1 VR) vs).eval o=execOp (over a0 (idx.filter (mI ops p.1)) vs).eval o:=execOp_congr o (fun cs b=>hF.sel p.1 o cs b ho) fun x hx=>by
   cases x with
   |tmp t =>
    by_cases hq:∃q∈idx,q.2=t
    ·obtain⟨q,hq,rfl⟩:=hq;have hd:mI ops p.1 q=VR:=by
      simp only[mI,ho,List.contains_iff_mem];exact ju _ (List.mem_filterMap.2 ⟨.tmp q.2,Td7,rfl⟩)
     rw[zN vs q _ (nd _) (DS.2 ⟨hq,a8 q hq hd⟩),zN vs q _ (nd _) (DS.2 ⟨hq,hd⟩)]
    rw[mE _ vs t _ fun q a9 e=>hq ⟨q,(DS.1 a9).1,e⟩,mE _ vs t _ fun q a9 e=>hq ⟨q,(DS.1 a9).1,e⟩]
   |_=>rfl
  have hw:Cd o (yielded ops (over a0 (idx.filter fun p=>L.getD p.1 VR) vs).tmps)=VR:=by simp[Cd,hg]
  unfold wpOp;simp only[ho,hw,ej];refine .inl ?_;have H2:=Ck (a:=over a0 (idx.filter fun p=>L.getD p.1 VR) vs) he (by rw[uo,uo]) (fun c w h=>by rw[xm]at h ⊢;exact hQ _ _ _ _ h) H;refine Oper.wp_mono (fun a' w'=>?_) H2;rintro⟨v,rfl,af,ZJ,ZK⟩;have hs:p.1<L.size:=by rw[hL.size];exact mV hi
  have a7:∀j:Nat,(L.setIfInBounds p.1 VR).getD j VR=(L.getD j VR||j==p.1):=fun j=>by
   by_cases e:j=p.1
   ·rw[e];simp[hs]
   rw[ly VR (Ne.symm e)];simp[e]
  have key:∀q:Nat × Nat,(L.setIfInBounds p.1 VR).getD q.1 VR=(L.getD q.1 VR||q.1==p.1):=fun q=>a7 q.1;refine⟨fun _=>UZ _ _ af,?_⟩
  have e2:(over a0 (idx.filter fun p=>L.getD p.1 VR) vs).put o.dst v=over a0 (idx.filter fun q=>(L.setIfInBounds p.1 VR).getD q.1 VR) (fun k=>if k=p.1 then v else vs k):=by
   rw[U0,A0 fun q _=>key q];exact(xc vs p v (fun k=>L.getD k VR) a5 idx a0 hF.n2 hF.n1 hp).symm
  rw[e2];refine ih _ _ w' ⟨by simp[hL.size],fun t ht=>?_,fun t ht aj=>?_,hL.clo.set hi⟩ ?_ (by rw[funext a7];exact af) (fun q hq X1=>?_)
  ·rcases hL.head t ht with q|q
   ·exact .inl (getD_set_true q)
   exact .inr q
  ·rw[ly VR WQ];exact hL.tail t ht aj
  ·have:=Bi hp hF.n1 a5 hs;omega
  by_cases e:q.1=p.1
  ·rw[e];exact ZK
  have QI:L.getD q.1 VR=VR:=by
   rw[key q]at X1;simpa[e]using X1
  refine hst q hq p hp (fun e'=>e e'.symm) vs _ w w' (fun k hk=>?_) (hf q hq QI) ZJ;refine bh fun ek=>?_;rcases hF.agr q hq k hk with q1|⟨r,hr,er,ak⟩
  ·exact e (q1.symm.trans ek)
  obtain⟨oq,ZL,e2,am,hb2,U1⟩:=A5 (hF.dep q hq r hr ak);have ao:q.1<L.size:=by rw[hL.size];exact cC (hF.op q hq).1 hF.le
  have:=hL.clo q.1 oq ZL (zX ao QI) e2 am hb2;rw[U1,er,ek]at this;rw[pW this]at a5;cases a5
def fE(ag:Nat->wy Nat)(F:Nat->(Nat->zY)->H7->Prop)(C:(Nat->Bool)->H7->Prop)(Ev:Nat->H7->H7->Prop)
  (hB:zF md l.toArray m idx ag listed=VR) (QJ:fuel=idx.length+(l.drop m).length) (UZ:∀d w,C d w->S w) (hst:∀p∈idx,∀q∈idx,q.1≠p.1->∀(vs us:Nat->zY) w w',(∀k∈ag p.1,us k=vs k)->F p.1 vs w->Ev q.1 w w'->F p.1 us w')
  (hQ:∀c (t t':Array zY) w,Q (.panic c) { a0 with tmps:=t } w->Q (.panic c) { a0 with tmps:=t' } w) (hC:C (fun j=>listed.getD j VR) w0) (gR:kA P l.toArray Q F C Ev a0 idx idx)
  (a5:∀(vs:Nat->zY) (d:Nat->Bool) (w:H7),C d w->(∀p∈idx,d p.1=VR/\F p.1 vs w)->wpList P l.toArray Q (l.drop m) (over a0 idx vs) w) :
  bG P md l.toArray Q S (needs m ws) fuel listed a0 w0:=by
 obtain⟨h1,h2,h3⟩:=xQ hB;have hr:(idx.filter fun p=>!listed.getD p.1 VR).length=idx.length:=by
  rw[List.filter_eq_self.2 fun p hp=>by rw[h3 p hp];rfl]
 have:=oF (ws:=ws) (S:=S) h1 UZ hst hQ gR (fun j=>by simp[pk]) XN a5 idx.length listed (fun _=>undef) w0 h2 hr hC (fun p hp h=>by rw[h3 p hp]at h;cases h);rw[QJ];have e:idx.filter (fun p=>listed.getD p.1 VR)=[]:=NX.2 fun p hp=>by rw[h3 p hp];simp
 rw[e]at this;exact this
end
def aS:(∀(a:Act) (v:zY),a.put VX v=a)/\(∀(a:Act) (t:Nat) (v:zY),a.put (Vv t) v=⟨a.tmps.setIfInBounds t v,a.defers⟩)/\(∀(l:RH) (i:Nat) (x:zY),l.toArray.setIfInBounds i x=(l.set i x).toArray)/\(∀(a b:zY) (l:RH),(a::l).set 0 b=b::l)/\(∀(a b:zY) (l:RH) (i:Nat),(a::l).set (i+1) b=a::l.set i b):=⟨fun _ _=>rfl,fun _ _ _=>rfl,fun _ _ _=>by simp,fun _ _ _=>rfl,fun _ _ _ _=>rfl⟩
def ak:(∀(a:Act) (t:Nat) (v:zY),a.put (Vv t) v=⟨a.tmps.setIfInBounds t v,a.defers⟩)/\(∀(l:RH) (i:Nat) (x:zY),l.toArray.setIfInBounds i x=(l.set i x).toArray)/\(∀(a b:zY) (l:RH),(a::l).set 0 b=b::l)/\(∀(a b:zY) (l:RH) (i:Nat),(a::l).set (i+1) b=a::l.set i b):=⟨fun _ _ _=>rfl,fun _ _ _=>by simp,fun _ _ _=>rfl,fun _ _ _ _=>rfl⟩
section
variable {P:Program} {ops:Array Oper} {Q:N2} {md:Region.Mode} {S:H7->Prop} {N:Nat->Bool} {d:Tmp} {oi:Oper} {v:zY} {fuel:Nat} {listed:Array Bool} {a:Act} {w:H7}
variable {a':Act}
def fz  (i:Nat) (h:bG P md ops Q S N fuel (listed.setIfInBounds i VR) a' w) (hi:ops[i]?=Vv oi:=by rfl) (hd:oi.dst=Vv d:=by rfl) (hb:(GS ops&&Is md ops listed i&&(BE md ops listed).contains i&&!N i)=VR:=by kernel_rfl) (hg:Cd oi (yielded ops a.tmps)=VR:=by rfl) (hy:∀w,(fun _=>True) w->(execOp a.eval oi).run P w=.ok (.value v) w:=by(intro w _;go_simp;(try(with_reducible rfl)))) (hQ:∀c a w,Q (.panic c) (a.put (Vv d) v) w->Q (.panic c) a w:=by exact fun _ _ _ h=>h) (ha:a.put (Vv d) v=a':=by(try simp only[ak]);(try exact lX)):bG P md ops Q S N (fuel+1) listed a w:=nz hi hd hb hQ (Or.inl ⟨hg,hy⟩) TdU
def gC  (hQ:∀c (a:Act) (d:Tmp) (v:zY) w,Q (.panic c) (a.put (Vv d) v) w->Q (.panic c) a w) (i:Nat) (h:bG P md ops Q S N fuel (listed.setIfInBounds i VR) a' w) (hi:ops[i]?=Vv oi:=by rfl) (hd:oi.dst=Vv d:=by rfl) (hb:(GS ops&&Is md ops listed i&&(BE md ops listed).contains i&&!N i)=VR:=by kernel_rfl) (hg:Cd oi (yielded ops a.tmps)=VR:=by rfl) (hy:∀w,(fun _=>True) w->(execOp a.eval oi).run P w=.ok (.value v) w:=by(intro w _;go_simp;(try(with_reducible rfl)))) (ha:a.put (Vv d) v=a':=by(try simp only[ak]);(try exact lX)):bG P md ops Q S N (fuel+1) listed a w:=nz hi hd hb (fun _ _ _ h=>hQ _ _ _ _ _ h) (Or.inl ⟨hg,hy⟩) TdU
def fS  (i:Nat) (hS:S w) (h:bG P md ops Q S N fuel (listed.setIfInBounds i VR) a' w) (hi:ops[i]?=Vv oi:=by rfl) (hd:oi.dst=Vv d:=by rfl) (hb:(GS ops&&Is md ops listed i&&(BE md ops listed).contains i&&lM md ops N listed i&&BF md ops listed)=VR:=by kernel_rfl) (hg:Cd oi (yielded ops a.tmps)=VR:=by rfl) (hy:∀w,S w->(execOp a.eval oi).run P w=.ok (.value v) w:=by(intro w fi;(try dsimp only at fi);go_simp;(try(with_reducible rfl)))) (hQ:∀c a w,Q (.panic c) (a.put (Vv d) v) w->Q (.panic c) a w:=by exact fun _ _ _ h=>h) (ha:a.put (Vv d) v=a':=by(try simp only[ak]);(try exact lX)):bG P md ops Q S N (fuel+1) listed a w:=o7 hi hd hb hQ (Or.inl ⟨hg,hy⟩) hS TdU
def cH  (hQ:∀c (a:Act) (d:Tmp) (v:zY) w,Q (.panic c) (a.put (Vv d) v) w->Q (.panic c) a w) (i:Nat) (hS:S w) (h:bG P md ops Q S N fuel (listed.setIfInBounds i VR) a' w) (hi:ops[i]?=Vv oi:=by rfl) (hd:oi.dst=Vv d:=by rfl) (hb:(GS ops&&Is md ops listed i&&(BE md ops listed).contains i&&lM md ops N listed i&&BF md ops listed)=VR:=by kernel_rfl) (hg:Cd oi (yielded ops a.tmps)=VR:=by rfl) (hy:∀w,S w->(execOp a.eval oi).run P w=.ok (.value v) w:=by(intro w fi;(try dsimp only at fi);go_simp;(try(with_reducible rfl)))) (ha:a.put (Vv d) v=a':=by(try simp only[ak]);(try exact lX)):bG P md ops Q S N (fuel+1) listed a w:=o7 hi hd hb (fun _ _ _ h=>hQ _ _ _ _ _ h) (Or.inl ⟨hg,hy⟩) hS TdU
end
variable {Q:N2}{N L bs bb sz B gb qS:Nat}{a:Act}{w w' wr w2:H7}{Gb:wy az}{p:wy (H6 × H5)}{X Y ok':LN}{nv vv rK rN v z:zY}{g g':af}{t e:TypeId}{cs:RH}{next':PI}{α:Type}{i0:TypeInfo}{vl:wy ay}
def lR{P:Program} {ops:Array Oper}  {md:Region.Mode} {S:H7->Prop} {N:Nat->Bool} {o:Oper} {fuel:Nat} {listed:Array Bool}   (i:Nat) (h:∀K:Act->H7->Prop,Go.RowKit.Hid (∀a' w',S w'->bG P md ops Q S N fuel (listed.setIfInBounds i VR) a' w'->K a' w')->o.wp P a w K Q) (hi:ops[i]?=Vv o:=by rfl) (hw:o.guard=VX:=by rfl) (hr:BE md ops listed=[i]:=by kernel_rfl):bG P md ops Q S N (fuel+1) listed a w:=au hi hw hr h
def es:H6:=⟨#[]⟩
def dE(n:Int)(on:H6)(s:Int):aB:=⟨0,n,1,[⟨VN,on,s⟩],0,[],es,es,0,0,0⟩
def eD(name:H6)(id:Int)(hidden:Bool)(n:Int)(on:H6)(s:Int):ay:=⟨name,id,hidden,VN,[],[dE n on s]⟩
inductive fZ (Gb:wy az):PI->wy (H6 × H5)->PI->Prop
 |nil (next:PI):fZ Gb next [] next
 |snoc {next next1:PI} {ps:wy (H6 × H5)} {d:Nat} {D:az} {m s n:Int} (h:fZ Gb next ps next1) (hd:Gb[d]?=Vv D) (hm:next1[d]?=Vv m) (h1:m<=s) (h2:s+n<=D.Gc) (h3:1<=n):fZ Gb next (ps++[(D.name,s,n)]) (next1.set d (s+n))
def fZ.trans{a b c:PI}{q:wy (H6 × H5)}(h:fZ Gb a p b)(k:fZ Gb b q c):fZ Gb a (p++q) c:=by
 induction k with
 |nil=>simpa using h
 |snoc k hd hm h1 h2 h3 ih =>
  rw[<- cV];exact .snoc ih hd hm h1 h2 h3
structure DOk(Gb:wy az)(next:PI):Prop where
 len:next.length=Gb.length
 pos:0<Gb.length
 le:Gb.length<=8
 ext:∀D∈Gb,0<=D.Gc/\D.Gc<=1000
 nx:∀(d:Nat) (m:Int),next[d]?=Vv m->0<=m/\m<=1000
def fZ.ok{a b:PI}(h:fZ Gb a p b)(k:DOk Gb a):DOk Gb b:=by
 induction h with
 |nil=>exact k
 |@snoc next1 ps d D m s n h hd hm h1 h2 h3 ih =>
  refine⟨by simp[ih.len],ih.pos,ih.le,ih.ext,fun e x hx=>?_⟩;rw[List.getElem?_set]at hx;split at hx
  ·split at hx
   ·injection hx with hx;have:=ih.nx d m hm;have:=ih.ext D (ct hd);omega
   cases hx
  exact ih.nx e x hx
structure BOk(g:af)(next:PI):Prop where
 dk:DOk g.Gb next
 n0:0<=g.next
 n1:g.next<=100000
 vl:Wq g.F9<=100
def Fz(w:H7)(vv:zY)(n:Nat):Prop:=∃vb vc sb,vv=FG (Vv ⟨vb,0,VX⟩) (n+1) vc/\w.cell? ⟨vb,n*6+5,VX⟩=Vv (FG (Vv ⟨sb,0,VX⟩) 1 1)
def F3(X:LN)(bs bb:Nat)(nv vv:zY)(g:af)(next:PI)(name:H6)(hidden:Bool)(n:Int)(w:H7)(e:Ending)(w':H7):Prop :=
 (e=S6 (Ft VN)/\aH X bs bb nv vv w w' nv vv { g with next:=g.next+1 } next) \/
 ∃(on:H6) (s:Int) (next':PI) (pA:zY),fZ g.Gb next [(on,s,n)] next'/\e=S6 (Ft VR) /\
  aH X bs bb nv vv w w' nv pA { g with next:=g.next+1,F9:=g.F9++[eD name (oX g.id (g.next+1)) hidden n on s] } next'/\Fz w' pA (Wq g.F9)
def fD(X:LN)(L:Nat):Nat->Prop:=fun k=>X k\/k=L
def CU{o:Obj}(hL:L=w.1.size):∀k,fD X L k->X k\/(w.1.size<=k/\k<(w.alloc o).1.size):=by
 rintro k (h|rfl)
 ·exact .inl h
 exact .inr ⟨WQ,ZY⟩
def ae(w:H7)(o:Obj):Below w.1.size w (w.alloc o):=(bj _ _).alloc (bk _) _
def qM(hb:b<w.1.size)(o p q:Obj):(((w.alloc o).alloc p).alloc q).1[b]?=w.1[b]?:=by
 rw[cj _ _ _ ZY,cj _ _ _ ZY,cj _ _ _ hb]
def eW.c7(h:eW X w bs bb nv vv g next):∃p ir,w.cell? (XM bb 7)=Vv (FG p (Wq g.Gb) ir)/\Wq g.Gb<=ir/\ir<=9223372036854775807:=by
 obtain⟨tv,dv,hv,e,_,h2,_⟩:=h.blk;obtain⟨p,ir,ed,k1,k2,k3⟩:=h2;simp only[rp,and_true]at ed;subst ed;exact⟨p,ir,cr e _ _ lX,k1,k2⟩
def TcG(h:gt:=by
 obtain⟨tv,dv,hv,e,_,h2,_⟩:=h.blk;simp[World.cell?,e]):=h
def eW.c8(h:eW X w bs bb nv vv g next):w.cell? (XM bb 8)=Vv vv:=by
 exact TcG
def eW.bfr(h:eW X w bs bb nv vv g next)(i:Nat):w.frozen? (bb,i)=VN:=by
 obtain⟨tv,dv,hv,e,_,h2,_⟩:=h.blk;simp[BT,e]
def TaN(x0:H6)(x1:Int)(x2:Bool)(x3:IH):Tab #[By x0,Bm U8 x1,Ft x2,Ft VN,FG VX 0 0,FG x3 1 1]:=⟨⟩
def ZR(h:gt:=by rfl):=h
def Tdj(h:gt:=by simp[Value.oneCell']):=h
def qw(X:LN)(bs bb:Nat)(nv vv:zY)(g:af)(next:PI){w:H7}(h:eW X w bs bb nv vv g next)(hk:BOk g next)(name:H6)(hidden:Bool)(d0:Nat)(n:Int)(ak:d0<=100)(ag:1<=n)(hn1:n<=1000000):Calls prog 16 #[SL (Vv bb),By name,Ft hidden,Bm Sj d0,Bm Sj n] w (F3 X bs bb nv vv g next name hidden n w):=by
 have k0:=hk.n0;have k1:=hk.n1;have k2:=hk.dk.pos;have k3:=hk.dk.le;have k4:=hk.vl;go_enter func16,ntmps16
 go_wp2_with fail;refine(vS X bs bb nv vv g next _ h WQ WQ).mono ?_;rintro e w1 ⟨rfl,P1⟩;generalize hid:oX g.id (g.next+1)=mz;replace hid:=aa hid;go_wp2;have P2:=P1.fresh (Y:=fD X w1.1.size) (ae w1 (Sx #[name,Bm U8 mz,hidden,VN,FG VX 0 0,FG VX 0 0] 46)) (CU lX);have HL:=aa (b9 w1 (Sx #[name,Bm U8 mz,hidden,VN,FG VX 0 0,FG VX 0 0] 46));have TP:=P1.mod.size;generalize hL:w1.1.size=L at *;replace hL:=aa hL;go_loopw[12] (fun i wr=>∃k:Nat,k<=Wq g.Gb/\i=Bm Sj k/\aH (fD X L) bs bb nv vv w wr nv vv { g with next:=g.next+1 } next/\wr.1[L]?=Vv (Sx #[name,Bm U8 mz,hidden,VN,FG VX 0 0,FG VX 0 0] 46 (0,0))) (fun i _=>Wq g.Gb-(intOf i).toNat)
 exact⟨0,WQ,rfl,P2,HL.o⟩;obtain⟨k,am,rfl,P,a7⟩:=hrel;replace a7:=aa a7;obtain⟨dp,ir,c7,l1,l2⟩:=P.bld.c7;simp only at c7 l1;by_cases hlt:k<Wq g.Gb
 ·have oY:((d0:Int)+(k:Int))%(Wq g.Gb:Int)=(((d0+k)%Wq g.Gb:Nat):Int):=by simp
  have CD:(d0+k)%Wq g.Gb<Wq g.Gb:=Nat.mod_lt _ k2;generalize hd:(d0+k)%Wq g.Gb=d at *;replace hd:=aa hd;obtain⟨D,hD⟩:=aj g.Gb d CD;obtain⟨m,hm⟩:=aj next d (by rw[hk.dk.len];exact CD);have QK:=hk.dk.nx d m hm;replace hD:=aa hD;replace hm:=aa hm;go_wp2_with fail;refine(qR (fD X L) bs bb nv vv _ next P.bld d D m n hD.o hm.o QK.1 WQ WQ hn1).mono ?_;rintro e w2 (⟨rfl,Q,_⟩|⟨s,hs1,hs2,rfl,Q,_⟩)
  ·go_wp2;go_roundw;exact⟨k+1,WQ,Zf,(P.trans Q).after (ae _ _),(cj _ _ _ (by have:=Q.mod.size;have:=aq a7.o;omega)).trans ((Q.loc P.bld (.inr lX)).trans a7.o)⟩;exact Ti
  have R2:=P.trans Q;have TQ:=aa ((Q.loc P.bld (.inr lX)).trans a7.o);have a9:L<w2.1.size:=aq TQ.o;have ZO:∀o p q,(((w2.alloc o).alloc p).alloc q).cell? (XM L 5)=Vv (FG VX 0 0):=fun o p q=>by simp[AN,qM a9,TQ.o]
  have ZP:∀o p q,(((w2.alloc o).alloc p).alloc q).frozen? (XM L 5)=VN:=fun o p q=>by simp[BT,qM a9,TQ.o]
  go_wp2;clear ZO ZP;generalize hW:AF (AI (AI (AI w2 _) _) _) _ _=W;have R4:aH (fD X L) bs bb nv vv w W nv vv { g with next:=g.next+1 } (next.set d (s+n)):=by
   rw[<- hW];exact(((R2.after (ae _ _)).after (ae _ _)).after (ae _ _)).put L 5 _ (.inr lX) TP
  have U2:W.1[L]?=Vv (Sx (TaN name mz hidden (Vv ⟨w2.1.size+1+1,0,VX⟩)) 46 (0,0)):=by
   rw[<- hW];exact block_setCell (cs:=#[_,_,_,_,_,_]) (i:=5) _ ((qM a9 _ _ _).trans TQ.o)
  have DA:W.1[w2.1.size+1]?=Vv (Sx [Ft VN,By D.name,Bm Sj s].toArray 53 (0,0)):=by
   rw[<- hW,bw _ _ _ _ ZY,cj _ _ _ XN];have:=b9 (w2.alloc (Sx (Tat D.name s) 53)) (Sx (Tat D.name s) 53);rw[cW]at this;exact this
  have X2:W.1[w2.1.size+1+1]?=Vv (Sx [Bm Sj 0,Bm Sj n,Bm Sj 1,FG (Vv (XM (w2.1.size+1) 0)) 1 1,Bm Sj 0,FG VX 0 0,By es,By es,Bm Sj 0,Bm Sj 0,Bm Sj 0].toArray 55 (0,0)):=by
   rw[<- hW,bw _ _ _ _ ZY];have:=b9 ((w2.alloc (Sx (Tat D.name s) 53)).alloc (Sx (Tat D.name s) 53)) (Sx #[Bm Sj 0,n,Bm Sj 1,FG (Vv (XM (w2.1.size+1) 0)) 1 1,Bm Sj 0,FG VX 0 0,By es,By es,Bm Sj 0,Bm Sj 0,Bm Sj 0] 55);rw[cW,cW]at this;exact this
  have RV:aN (ZQ (fD X L) bb nv vv) W [By name,Bm U8 mz,Ft hidden,Ft VN,FG VX 0 0,FG (Vv (XM (w2.1.size+1+1) 0)) 1 1] (eD name mz hidden n D.name s) :=
   ⟨_,_,rfl,ck.nil,ck.one X2 (R2.bld.okNew WQ) lX ⟨_,_,rfl,ck.one DA (R2.bld.okNew WQ) lX rfl,ck.nil⟩⟩
  clear hW DA X2;obtain⟨i0,hi,du,R0,RC⟩:=gg zT;replace hi:=aa hi;replace du:=aa du;replace R0:=aa R0;replace RC:=aa RC;have cX:=R4.bld.Gj;have U3:bb<L:=by have:=h.Gj;omega
  have q8:W.cell? (XM bb 8)=Vv vv:=R4.bld.c8;have qL:=cr U2;have ah:bb≠L:=by omega
  have ai:L≠bb:=by omega
  have qf:W.frozen? (XM bb 8)=VN:=R4.bld.bfr 8;obtain⟨q0,q1,q2,q3,q4,q5⟩:=sv6 qL;replace qL:=aa qL;replace U2:=aa U2;have HK:=aa (fun(W1 W2:H7) (gb cap:Nat) hb hp=>R4.bld.pushKeeps (N:=W.1.size) (p:=eD name mz hidden n D.name s) (u:=[By name,Bm U8 mz,Ft hidden,Ft VN,FG VX 0 0,FG (Vv (XM (w2.1.size+1+1) 0)) 1 1]) (w1:=W1) (w2:=W2) (gb:=gb) (cap:=cap) hb hp);have QL:=aa (R4.bld.ready RV);have ZT:=aa (fun(W1 W2:H7) (gb cap:Nat) hb hp=>R4.push (N:=W.1.size) (p:=eD name mz hidden n D.name s) (u:=[By name,Bm U8 mz,Ft hidden,Ft VN,FG VX 0 0,FG (Vv (XM (w2.1.size+1+1) 0)) 1 1]) (w1:=W1) (w2:=W2) (gb:=gb) (cap:=cap) hb hp (bk _));refine gW (fun w'=>w'.cell? (XM bb 8)=Vv vv/\w'.cell? L=Vv (By name)/\w'.cell? (XM L 1)=Vv (Bm U8 mz)/\w'.cell? (XM L 2)=Vv (Ft hidden)/\w'.cell? (XM L 3)=Vv (Ft VN)/\w'.cell? (XM L 4)=Vv (FG VX 0 0)/\w'.cell? (XM L 5)=Vv (FG (Vv (XM (w2.1.size+1+1) 0)) 1 1)) 8 [0,1,2,3,4] Yp (by simp[q8,q0,q1,q2,q3,q4,q5]) (fun a5=>?_);refine fz 0 ?_;refine fz 1 ?_;refine fz 2 ?_;refine fz 3 ?_;refine fz 4 ?_;refine fS 5 a5 ?_;refine fS 6 a5 ?_;refine lR 7 fun K hK=>?_;go_simp;have jn:Below W.1.size W ((W.alloc (Sx (TaN name mz hidden (Vv ⟨w2.1.size+1+1,0,VX⟩)) 46)).drew):=(ae _ _).drew
  have QM:∀(j:Nat) (y:zY),[By name,Bm U8 mz,Ft hidden,Ft VN,FG VX 0 0,FG (Vv (XM (w2.1.size+1+1) 0)) 1 1][j]?=Vv y->((W.alloc (Sx (TaN name mz hidden (Vv ⟨w2.1.size+1+1,0,VX⟩)) 46)).drew).cell? ⟨W.1.size,j,VX⟩=Vv y:=fun j y hy=>by
   show(W.alloc _).cell? _=_;exact aD lX Tdr
  have mA:W.1.size+1=((W.alloc (Sx (TaN name mz hidden (Vv ⟨w2.1.size+1+1,0,VX⟩)) 46)).drew).1.size:=by simp
  have X3:∀w':H7,w'.1[bb]?=W.1[bb]?->w'.1[L]?=W.1[L]?->w'.cell? (XM bb 8)=Vv vv/\w'.cell? L=Vv (By name)/\w'.cell? (XM L 1)=Vv (Bm U8 mz)/\w'.cell? (XM L 2)=Vv (Ft hidden)/\w'.cell? (XM L 3)=Vv (Ft VN)/\w'.cell? (XM L 4)=Vv (FG VX 0 0)/\w'.cell? (XM L 5)=Vv (FG (Vv (XM (w2.1.size+1+1) 0)) 1 1):=fun w' e1 e2 =>
   ⟨(cd (w:=W) e1).trans q8,(cd (w:=W) e2).trans q0,(cd (w:=W) e2).trans q1,(cd (w:=W) e2).trans q2,(cd (w:=W) e2).trans q3,(cd (w:=W) e2).trans q4,(cd (w:=W) e2).trans q5⟩
  generalize RE:(W.alloc (Sx (TaN name mz hidden (Vv ⟨w2.1.size+1+1,0,VX⟩)) 46)).drew=W1 at *;clear RE;refine hK.o _ _ (X3 _ (jn.block bb cX) (jn.block L (aq U2.o))) ?_;clear hK K;refine aP Yp lX ?_;simp only[cQ,cL];refine dX aN.moves underlying28 hi.o du.o R0.o RC.o lX YR YR lX ZR (bb+1) (fun b=>ZQ (fD X L) bb nv vv b/\b<W.1.size) vv g.F9 (eD name mz hidden n D.name s) ZR (QL.o _ jn).1 W.1.size 1 [By name,Bm U8 mz,Ft hidden,Ft VN,FG VX 0 0,FG (Vv (XM (w2.1.size+1+1) 0)) 1 1] ZR ZR (QL.o _ jn).2 Tdj QM WQ WQ H8 (fun gb cap w3 hp=>?_);obtain⟨a8,hx2⟩:=HK.o _ w3 gb cap jn hp;have y8:=(cd (w:=W) (w':=w3) (a:=⟨bb,8,VX⟩) a8).trans q8;have yf:=(rh (w:=W) (w':=w3) (a:=⟨bb,8,VX⟩) a8).trans qf;have R5:=ZT.o _ w3 gb cap jn hp;have ab:=hp.last 5 _ lX;replace ab:=aa ab;have cJ:=aa a8;have hgb:gb≠bb:=by
   rintro rfl;obtain⟨cs,ho,_⟩:=hp.own;have:=(ho.lt gb lX).1;omega
  clear hp a8 hx2 X3 QM;simp only[aS];go_wp2;go_ret;have hv:=hid.o;subst hv;refine .inr ⟨D.name,s,_,_,.snoc (.nil _) hD.o hm.o hs1 hs2 ag,rfl,R5.fewer (fun k hk=>.inl hk),gb,cap,w2.1.size+1+1,rfl,?_⟩;exact(cd (w:=w3) (bw _ _ _ _ hgb)).trans ab.o
 go_wp2;go_ret;exact .inl ⟨rfl,P.fewer (fun k hk=>.inl hk)⟩
def ic(k n:Int)(al:wy aR):aB:=⟨0,k*n,2,al,1,[],es,es,0,0,0⟩
def tC(name:H6)(id k n:Int)(al:wy aR):ay:=⟨name,id,VN,VN,[],[ic k n al]⟩
def UO(n:Int)(al:wy aR):wy (H6 × H5):=al.map fun a=>(a.on,a.start,n)
def F6(X:LN)(bs bb:Nat)(nv vv:zY)(g:af)(next:PI)(name:H6)(w:H7)(w':H7):Prop :=
 (∃ps next',fZ g.Gb next ps next'/\aH X bs bb nv vv w w' nv vv g next') \/
 ∃(k n:Int) (al:wy aR) (next':PI) (pA:zY),2<=k/\k<=3/\1<=n/\n<=2/\(al.length:Int)=k/\(∀a∈al,a.vol=VN)/\fZ g.Gb next (UO n al) next' /\
  aH X bs bb nv vv w w' nv pA { g with next:=g.next+1,F9:=g.F9++[tC name (oX g.id (g.next+1)) k n al] } next'
def eW.c0(h:eW X w bs bb nv vv g next):w.cell? bb=Vv (SL (Vv bs)):=by
 exact TcG
def dS(N:Nat)(t:TypeId)(cs:RH)(b:Nat)(w:H7):Prop:=N<=b/\w.1[b]?=Vv (Sx cs.toArray t (0,0))
def rS(N:Nat)(w w':H7):Prop:=w.1.size<=w'.1.size/\∀k,N<=k->k<w.1.size->w'.1[k]?=w.1[k]?
def dS.ev(h:dS N t cs b w)(he:rS N w w'):dS N t cs b w':=⟨h.1,(he.2 b h.1 (aq h.2)).trans h.2⟩
def dS.new(h:N<=w.1.size):dS N t cs w.1.size (w.alloc (Sx cs.toArray t)):=⟨h,b9 w _⟩
def rS.alloc(N:Nat)(w:H7)(o:Obj):rS N w (w.alloc o):=⟨XN,fun k _ h=>cj _ _ _ h⟩
def rS.refl(N:Nat)(w:H7):rS N w w:=⟨bk _,fun _ _ _=>rfl⟩
structure CS(Y:LN)(bs bb:Nat)(rK rN nv vv:zY)(w wr:H7)(g:af)(next:PI)(w':H7):Prop where
 post:aH Y bs bb rK rN w w' nv vv g next
 size:wr.heap.size<=w'.heap.size
 same:∀k,Y k->w'.heap[k]?=wr.heap[k]?
 oks:∀k,k<wr.heap.size->ZQ Y bb nv vv k->w'.heap[k]?=wr.heap[k]?
def CS.alloc(h:CS Y bs bb rK rN nv vv w wr g next w')(o:Obj):CS Y bs bb rK rN nv vv w wr g next (w'.alloc o) :=
 ⟨h.post.after (ae _ _),cA h.size XN,fun k hk=>(cj _ _ _ (h.post.bld.xlt k hk).2).trans (h.same k hk),fun k hk ho=>(cj _ _ _ (cC hk h.size)).trans (h.oks k hk ho)⟩
def CS.step(h:CS Y bs bb rK rN nv vv w wr g next w')(q:aH Y bs bb nv vv w' w2 nv vv g' next'):CS Y bs bb rK rN nv vv w wr g' next' w2 :=
 ⟨h.post.trans q,cA h.size q.mod.size,fun k hk=>(q.loc h.post.bld hk).trans (h.same k hk),fun k hk ho=>(q.loc' h.post.bld ho (cC hk h.size)).trans (h.oks k hk ho)⟩
def CS.ev(h:eW Y wr bs bb nv vv g next)(q:aH Y bs bb nv vv w' w2 nv vv g' next'):rS wr.1.size w' w2 :=
 ⟨q.mod.size,fun k h1 h2=>q.mod.block k h2 (h.nfp h1)⟩
def rZ(X:LN)(L:Nat)(av:zY):Nat->Prop:=fun k=>X k\/k=L\/av.ownBlock=Vv k
def aH.pushOwn{V:jx α}{ok:LN}{w1:H7}{i:Nat}{l:wy α}{p:α}{u:RH}(h:aH (rZ X L av) bs bb rK rN w w1 nv vv g next)
  (hL:w.1.size<=L) (a5:L<w1.1.size) (hB:L<B) (B4:∀b,av.ownBlock=Vv b->B<=b) (hp:jN V sz t B ok w1 av l p u gb cap w2) :
  aH (rZ X L (FG (Vv gb) (l.length+1) cap)) bs bb rK rN w (w2.setCell (L,i) (FG (Vv gb) (l.length+1) cap)) nv vv g next/\w2.1[L]?=w1.1[L]?/\gb≠L/\B<=gb:=by
 have hgb:B<=gb/\gb<w2.1.size:=by
  obtain⟨cs,ho,_⟩:=hp.own;exact ho.lt gb lX
 refine⟨h.move (((cR.mk hp.grown.os hp.grown.tape hp.grown.output hp.grown.size fun k hk hn=>hp.grown.block k hk fun e=>hn ⟨.inr (.inr e.symm),?_⟩:cR (fun k=>rZ X L av k/\w.1.size<=k) w1 w2)).setCell (p:=⟨L,i,VX⟩) (.inl ⟨.inr (.inl lX),hL⟩) _) (fun k hk=>?_),hp.grown.block L a5 (fun e=>by have:=B4 L e.symm;omega),WQ,hgb.1⟩
 ·have:=B4 k e.symm;omega
 rcases hk with q|q|q
 ·exact .inl (.inl q)
 ·exact .inl (.inr (.inl q))
 obtain rfl:gb=k:=by injection q
 rcases hp.at' with q|q
 ·exact .inl (.inr (.inr q))
 exact .inr ⟨WQ,by simp[AF];omega⟩
def TaR(x0:H6)(x1:Int)(x2:IH):Tab #[By x0,Bm U8 x1,Ft VN,Ft VN,FG VX 0 0,FG x2 1 1]:=⟨⟩
theorem vX{X:LN}(bs bb:Nat)(nv vv:zY)(g:af)(next:PI){w:H7}(h:eW X w bs bb nv vv g next)(hk:BOk g next)(name:H6):Calls prog 18 #[SL (Vv bb),By name] w (fun e w'=>e=S6 (Vj #[])/\F6 X bs bb nv vv g next name w w'):=by
 have k0:=hk.n0;have k1:=hk.n1;have k2:=hk.dk.pos;have k3:=hk.dk.le;have k4:=hk.vl;have c0:=h.c0;have cX:=h.Gj;have gO:=h.lt;have sy:¬bb=bs:=by omega
 go_enter func18,ntmps18;go_wp2;refine gW (fun w'=>w'.cell? bb=Vv (SL (Vv bs))) 10 [0,1,2,5,6,7] Yp c0 (fun a5=>?_);refine fz 0 ?_;refine fz 1 ?_;refine fz 2 ?_;refine fz 5 ?_;refine fz 6 ?_;refine fz 7 ?_;refine fS 3 a5 ?_;refine fS 8 a5 ?_;refine lR 4 fun K hK=>?_;go_simp;refine(bO bs 2 3 _ WQ WQ WQ (h.below ((bj _ _).drew)).src).mono ?_;rintro e w1 ⟨v,rfl,aF,aG,hs,hm⟩;refine hK.o _ _ ((hm.cell (p:=bb) cX sy).trans c0) ?_;clear hK K;refine lR 9 fun K hK=>?_;go_simp;have OS:bb<w1.1.size:=cC cX hm.size;refine(bO bs 1 2 _ WQ WQ WQ hs).mono ?_;rintro e w2 ⟨n,rfl,hn1,hn2,hs2,ah⟩;refine hK.o _ _ ((ah.cell (p:=bb) OS sy).trans ((hm.cell (p:=bb) cX sy).trans c0)) ?_;clear hK K;refine aP Yp lX ?_;simp only[cQ,cL];have P2:aH X bs bb nv vv w w2 nv vv g next:=((aH.refl h).drewN 1).read hs hm |>.read hs2 ah;clear hm ah hs hs2;obtain⟨v,rfl⟩:∃u:Nat,v=u:=⟨v.toNat,WQ⟩;have ai:0<=(v:Int)*n/\(v:Int)*n<=6:=by rcases(show n=1\/n=2 by omega)with rfl|rfl<;>omega
 have hb2:=ai.1;have hb3:=ai.2;clear ai;go_wp2;have TP:w.1.size<=w2.1.size:=P2.mod.size;have P3:=P2.fresh (Y:=rZ X w2.1.size (FG VX 0 0)) (ae w2 (Sx #[Bm Sj 0,Bm Sj (v*n),Bm Sj 2,FG VX 0 0,Bm Sj 1,FG VX 0 0,By es,By es,Bm Sj 0,Bm Sj 0,Bm Sj 0] 55)) (by
  rintro k (q|rfl|q)
  ·exact .inl q
  ·exact .inr ⟨bk _,XN⟩
  cases q)
 have HL:=aa (b9 w2 (Sx #[Bm Sj 0,Bm Sj (v*n),Bm Sj 2,FG VX 0 0,Bm Sj 1,FG VX 0 0,By es,By es,Bm Sj 0,Bm Sj 0,Bm Sj 0] 55));generalize hL:w2.1.size=L at *;replace hL:=aa hL;go_loopw[7] (fun i wr=>∃(k:Nat) (av:zY) (al:wy aR) (next':PI),k<=v/\i=Bm Sj k/\al.length=k/\(∀a∈al,a.vol=VN)/\fZ g.Gb next (UO n al) next'/\aH (rZ X L av) bs bb nv vv w wr nv vv g next'/\bF aQ 3 53 (L+1) (fun _=>False) wr av al /\
   wr.1[L]?=Vv (Sx #[Bm Sj 0,Bm Sj (v*n),Bm Sj 2,av,Bm Sj 1,FG VX 0 0,By es,By es,Bm Sj 0,Bm Sj 0,Bm Sj 0] 55 (0,0))) (fun i _=>v-(intOf i).toNat)
 case atStart=>exact⟨0,_,[],_,WQ,rfl,rfl,XN,.nil _,P3,⟨[],gS _ _ _ 3,rfl⟩,HL.o⟩
 obtain⟨k,av,al,next',aI,rfl,hal,pS,DB,P,B4,a7⟩:=hrel;replace a7:=aa a7;replace pS:=aa pS;replace hal:=aa hal;have dk:=DB.ok hk.dk;obtain⟨dp,ir,c7,l1,l2⟩:=P.bld.c7;by_cases hlt:k<v
 ·have oY:(k:Int)%(Wq g.Gb:Int)=((k%Wq g.Gb:Nat):Int):=by simp
  have CD:k%Wq g.Gb<Wq g.Gb:=Nat.mod_lt _ k2;generalize hd:k%Wq g.Gb=d at *;replace hd:=aa hd;obtain⟨D,hD⟩:=aj g.Gb d CD;obtain⟨m,hm⟩:=aj next' d (by rw[dk.len];exact CD);have QK:=dk.nx d m hm;replace hD:=aa hD;replace hm:=aa hm;go_wp2_with fail;refine(qR (rZ X L av) bs bb nv vv _ next' P.bld d D m n hD.o hm.o QK.1 WQ WQ WQ).mono ?_;rintro e w3 (⟨rfl,Q,_⟩|⟨s,hs1,hs2,rfl,Q,_⟩)
  ·go_wp2;refine eC (results_none lX _ _ _) lX ⟨rfl,.inl ⟨_,_,DB,((P.trans Q).after (ae _ _)).fewer (fun k hk=>.inl hk)⟩⟩
  have R3:=P.trans Q;have QP:=aa ((Q.loc P.bld (.inr (.inl lX))).trans a7.o);have QQ:bF aQ 3 53 (L+1) (fun _=>False) w3 av al:=by
   obtain⟨cs,ho,hf⟩:=B4;exact⟨cs,aC ho fun b e=>Q.loc P.bld (.inr (.inr e)),Flat.moves aQ.moves ⟨Q.mod.size,fun _ _ f=>f.elim⟩ _ _ hf⟩
  have ak:L<w3.1.size:=aq QP.o;have ZV:∀o,(w3.alloc o).cell? (XM L 3)=Vv av:=fun o=>by simp[AN,cj _ _ _ ak,QP.o]
  obtain⟨i0,hi,du,R0,RC⟩:=gg kL;replace hi:=aa hi;replace du:=aa du;replace R0:=aa R0;replace RC:=aa RC;have hll:al.length<=1000000:=by have:=hal.o;omega
  have a8:Below w3.1.size w3 ((w3.alloc (Sx (Tat D.name s) 53)).alloc (Sx (Tat D.name s) 53)):=((bj _ _).alloc (bk _) _).alloc XN _;go_wp2_with(at_builtin;refine dX aQ.moves underlying47 hi.o du.o R0.o RC.o lX YR YR lX lX (L+1) (fun _=>False) av al ⟨VN,D.name,s⟩ lX ?c1 (w3.1.size+1) 1 [Ft VN,By D.name,Bm Sj s] lX rfl rfl ?c2 ?c3 hll ?c4 (fun _ _ f=>f) ?_)
  case c1 =>
   obtain⟨cs,ho,hf⟩:=QQ;exact⟨cs,eF ho fun i h1 h2=>a8.block i h2,Flat.moves aQ.moves ⟨a8.size,fun _ _ f=>f.elim⟩ _ _ hf⟩
  case c2=>simp[Value.oneCell']
  case c3 =>
   intro j y hy;exact aD XN Tdr
  case c4=>simp;omega
  intro gb cap w4 hp;obtain⟨R5,e4,K2,TR⟩:=(R3.after a8).pushOwn (i:=3) TP (by have:=a8.size;omega) (Nat.lt_succ_self L) (fun b e=>by
   obtain⟨cs,ho,_⟩:=QQ;exact(ho.lt b e).1) hp
  have e5:=e4.trans (a8.block L ak);have y3:=(cd (w:=w3) (w':=w4) (a:=⟨L,3,VX⟩) e5).trans (show w3.cell? (XM L 3)=Vv av by simp[AN,QP.o]);have yf:=(rh (w:=w3) (w':=w4) (a:=⟨L,3,VX⟩) e5).trans (show w3.frozen? (XM L 3)=VN by simp[BT,QP.o]);have ZW:=aa (e5.trans QP.o);replace hp:=aa hp;clear e4 e5 ZV;go_wp2;go_roundw
  case rel =>
   refine⟨k+1,_,al++[⟨VN,D.name,s⟩],_,WQ,Zf,by rw[cD,hal.o];rfl,fun a ha=>?_,?_,R5,?_,?_⟩
   ·rcases AS.1 ha with q|q
    ·exact pS.o a q
    simp at q;rw[q]
   ·rw[UO,gl];exact .snoc DB hD.o hm.o hs1 hs2 hn1
   ·obtain⟨cs,ho,hf⟩:=hp.o.own;refine⟨cs,aC ho fun b e=>?_,Flat.moves aQ.moves ⟨Tdi,fun _ _ f=>f.elim⟩ _ _ hf⟩;obtain rfl:gb=b:=by injection e
    exact bw _ _ _ _ K2
   exact block_setCell (cs:=#[_,_,_,_,_,_,_,_,_,_,_]) (i:=3) _ ZW.o
  simp[intOf];omega
 obtain rfl:k=v:=by omega
 have c8:=P.bld.c8;have ak:L<wr.1.size:=aq a7.o;have qL:=cr a7.o;obtain⟨q0,q1,q2,q3,q4,q5,q6,q7,q8,q9,au⟩:=IC qL;replace qL:=aa qL;go_wp2;refine gW (fun w'=>w'.cell? (XM bb 8)=Vv vv/\w'.cell? L=Vv (Bm Sj 0)/\w'.cell? (XM L 1)=Vv (Bm Sj (k*n))/\w'.cell? (XM L 2)=Vv (Bm Sj 2)/\w'.cell? (XM L 3)=Vv av/\w'.cell? (XM L 4)=Vv (Bm Sj 1)/\w'.cell? (XM L 5)=Vv (FG VX 0 0)/\w'.cell? (XM L 6)=Vv (By es)/\w'.cell? (XM L 7)=Vv (By es)/\w'.cell? (XM L 8)=Vv (Bm Sj 0)/\w'.cell? (XM L 9)=Vv (Bm Sj 0)/\w'.cell? (XM L 10)=Vv (Bm Sj 0)) 13 [0,1,2,3,4,6,7] Yp (by simp[c8,q0,q1,q2,q3,q4,q5,q6,q7,q8,q9,au]) (fun a5=>?_);refine fz 0 ?_;refine fz 1 ?_;refine fz 2 ?_;refine fz 3 ?_;refine fz 4 ?_;refine fz 6 ?_;refine fz 7 ?_;refine fS 5 a5 ?_;refine fS 9 a5 ?_;generalize ag:oX g.id (g.next+1)=mz;replace ag:=aa ag;clear q0 q1 q2 q3 q4 q5 q6 q7 q8 q9 au c8 c7;have ay:CS (rZ X L av) bs bb nv vv nv vv w wr.drew g next' wr.drew:=⟨P.drewN 1,bk _,fun _ _=>rfl,fun _ _ _=>rfl⟩
 have U4:bF aQ 3 53 (L+1) (fun _=>False) wr.drew av al:=by
  obtain⟨cs,ho,hf⟩:=B4;exact⟨cs,ho,Flat.moves (ok:=fun _=>False) (w:=wr) (w':=wr.drew) aQ.moves ⟨bk _,fun _ _ f=>f.elim⟩ _ _ hf⟩
 generalize az:wr.drew=wd at *;have pB:eW (rZ X L av) wd bs bb nv vv g next':=ay.post.bld;have ZX:Hid (wd.1[L]?=Vv (Sx #[Bm Sj 0,Bm Sj (k*n),Bm Sj 2,av,Bm Sj 1,FG VX 0 0,By es,By es,Bm Sj 0,Bm Sj 0,Bm Sj 0] 55 (0,0))):=by
  rw[<- az];exact a7.o
 clear az;refine fE (idx:=[(8,59),(10,61),(11,62),(12,63)])
  (fun i=>[i]) (fun i vs w'=>match i with
   |8=>vs 8=Bm U8 mz
   |10=>∃b,vs 10=FG (Vv ⟨b,0,VX⟩) 1 1/\dS wd.1.size 55 [Bm Sj 0,Bm Sj (k*n),Bm Sj 2,av,Bm Sj 1,FG VX 0 0,By es,By es,Bm Sj 0,Bm Sj 0,Bm Sj 0] b w'
   |11=>∃b,vs 11=Tk (TaR name mz (Vv ⟨b,0,VX⟩))/\dS wd.1.size 55 [Bm Sj 0,Bm Sj (k*n),Bm Sj 2,av,Bm Sj 1,FG VX 0 0,By es,By es,Bm Sj 0,Bm Sj 0,Bm Sj 0] b w'
   |12=>∃c b,vs 12=FG (Vv ⟨c,0,VX⟩) 1 1/\dS wd.1.size 46 [By name,Bm U8 mz,Ft VN,Ft VN,FG VX 0 0,FG (Vv ⟨b,0,VX⟩) 1 1] c w'/\dS wd.1.size 55 [Bm Sj 0,Bm Sj (k*n),Bm Sj 2,av,Bm Sj 1,FG VX 0 0,By es,By es,Bm Sj 0,Bm Sj 0,Bm Sj 0] b w'
   |_=>True)
  (fun d w'=>CS (rZ X L av) bs bb nv vv nv vv w wd { g with next:=if d 8=VR then g.next+1 else g.next } next' w') (fun _=>rS wd.1.size) Yp lX ?cs ?st (fun _ _ _ _ h=>h) ?c0 ?ob ?fin
 case c0=>exact ay
 case cs =>
  intro d w' hC;have e:=(hC.same L (.inr (.inl lX))).trans ZX.o;refine⟨hC.post.bld.c8,?_⟩;simp[AN,e]
 case st =>
  intro p hp q _ _ vs us w1 w2 ha hF he;simp only[dr,cY,dg]at hp;rcases hp with rfl|rfl|rfl|rfl
  ·exact(ha 8 (cG ..)).trans hF
  ·obtain⟨b,e,hb⟩:=hF;exact⟨b,(ha 10 (cG ..)).trans e,hb.ev he⟩
  ·obtain⟨b,e,hb⟩:=hF;exact⟨b,(ha 11 (cG ..)).trans e,hb.ev he⟩
  obtain⟨c,b,e,hc,hb⟩:=hF;exact⟨c,b,(ha 12 (cG ..)).trans e,hc.ev he,hb.ev he⟩
 case ob =>
  refine kA.cons (deps:=[]) lX rfl Yp (fun vs d w' h0 hC hF K hK=>?_) ?_
  ·clear hF;simp only at h0;simp only[h0,pj,fY]at hC;have hb:=hC.post.bld;simp only[over,cq,Act.put];go_simp;refine(vS (rZ X L av) bs bb nv vv g next' w' hb WQ WQ).mono ?_;rintro e w2 ⟨rfl,q⟩;refine hK.o (Bm U8 (oX g.id (g.next+1))) w2 ?_ (CS.ev pB q) ((aw lX).trans (fj (Bm U8) ag.o)) _ ?_
   ·simp only[h0,nj,BEq.rfl,ej];exact hC.step q
   simp only[over,cq,aS]
  refine kA.cons (deps:=[]) lX rfl Yp (fun vs d w' h0 hC hF K hK=>?_) ?_
  ·clear hF;simp only[over,cq,Act.put];go_simp;refine hK.o (FG (Vv w'.1.size) 1 1) _ ?_ (rS.alloc _ _ _) ⟨_,aw lX,dS.new hC.size⟩ _ ?_
   ·simp only[show(d 8||(8:Nat)==10)=d 8 from by simp];exact hC.alloc _
   simp only[over,cq,aS]
  refine kA.cons (deps:=[(8,59),(10,61)]) lX rfl Yp (fun vs d w' h0 hC hF K hK=>?_) ?_
  ·have f8:=(hF (8,59) XN).2;have a9:=(hF (10,61) XN).2;clear hF;simp only[over,cq,cF,aS]at f8 a9 ⊢;obtain⟨b,e10,hb⟩:=a9;rw[f8,e10]at ⊢;go_simp;refine hK.o (Tk (TaR name mz (Vv ⟨b,0,VX⟩))) _ ?_ (rS.refl _ _) ⟨_,aw lX,hb⟩ _ ?_
   ·simp only[show(d 8||(8:Nat)==11)=d 8 from by simp];exact hC
   simp only[over,cq,cF,aS,f8,e10]
  refine kA.cons (deps:=[(11,62)]) lX rfl Yp (fun vs d w' h0 hC hF K hK=>?_) trivial;have ab:=(hF (11,62) XN).2;clear hF;simp only[over,cq,cF,aS]at ab ⊢;obtain⟨b,aA,hb⟩:=ab;rw[aA]at ⊢;go_simp;refine hK.o (FG (Vv w'.1.size) 1 1) _ ?_ (rS.alloc _ _ _) ⟨_,b,aw lX,dS.new hC.size,hb.ev (rS.alloc _ _ _)⟩ _ ?_
  ·simp only[show(d 8||(8:Nat)==12)=d 8 from by simp];exact hC.alloc _
  simp only[over,cq,cF,aS,aA]
 case fin =>
  intro vs d w' hC hF;have f8:=(hF (8,59) XN).2;have a9:=(hF (10,61) XN).2;have ab:=(hF (11,62) XN).2;have aB:=(hF (12,63) XN).2;have am:=(hF (8,59) XN).1;clear hF;simp only[over,cq,cF,aS,cQ,cL]at f8 a9 ab aB am ⊢;obtain⟨c,b,aE,hc,hb⟩:=aB;rw[aE];simp only[am,ej]at hC;generalize vs 8=v8;generalize vs 10=v10;generalize vs 11=v11;clear f8 a9 ab am aE;have P':aH X bs bb nv vv w w' nv vv { g with next:=g.next+1 } next':=hC.post.fewer fun k hk=>.inl hk
  have TS:eW X wd bs bb nv vv g next':=pB.fewer fun k hk=>.inl hk;have hbl:=P'.bld.Gj
  have RA:ck aQ 3 (ZQ X bb nv vv) w' [av] al:=by
   have ha:bF aQ 3 53 (L+1) (fun _=>False) w' av al:=by
    obtain⟨cs,ho,hf⟩:=U4;exact⟨cs,aC ho fun b e=>hC.same b (.inr (.inr e)),Flat.moves aQ.moves ⟨hC.size,fun _ _ f=>f.elim⟩ _ _ hf⟩
   refine ha.rd aQ.moves YR (fun _ _ f=>f.elim) (fun b e=>⟨(pB.xlt b (.inr (.inr e))).1,fun q=>pB.xn b q (.inr (.inr e)),fun q=>pB.xv b q (.inr (.inr e)),fun hx=>?_⟩);obtain⟨cs,ho,_⟩:=ha;have:=(ho.lt b e).1;have:=(h.xlt b hx).2;omega
  have RV:aN (ZQ X bb nv vv) w' [By name,Bm U8 mz,Ft VN,Ft VN,FG VX 0 0,FG (Vv b) 1 1] (tC name mz k n al) :=
   ⟨_,_,rfl,ck.nil,ck.one hb.2 (TS.okNew hb.1) lX ⟨_,_,rfl,RA,ck.nil⟩⟩
  have kf:=P'.bld.ready RV w' (bj _ _);obtain⟨i0,hi,du,R0,RC⟩:=gg zT;refine dX aN.moves underlying28 hi du R0 RC lX YR YR lX ZR (bb+1) (fun b=>ZQ X bb nv vv b/\b<w'.1.size) vv g.F9 (tC name mz k n al) ZR kf.1 c 1 [By name,Bm U8 mz,Ft VN,Ft VN,FG VX 0 0,FG (Vv ⟨b,0,VX⟩) 1 1] ZR ZR kf.2 Tdj (fun j y hy=>?_) WQ WQ H8 (fun gb cap w3 hp=>?_)
  ·simp only[AN,hc.2];simpa using hy
  obtain⟨ao,hx2⟩:=P'.bld.pushKeeps (bj _ _) hp;have y8:=(cd (w:=w') (w':=w3) (a:=⟨bb,8,VX⟩) ao).trans P'.bld.c8;have yf:=(rh (w:=w') (w':=w3) (a:=⟨bb,8,VX⟩) ao).trans (P'.bld.bfr 8);have R5:=P'.push (bj _ _) hp (bk _);clear hp ao hx2 kf RV RA hC hc hb hi du R0 RC;simp only[aS];go_wp2;go_end0
  have hv:=ag.o;subst hv;exact⟨rfl,.inr ⟨k,n,al,next',_,aF,aG,hn1,hn2,by rw[hal.o],pS.o,DB,R5⟩⟩
def iL{α:Type}(V:jx α)(sz:Nat)(ok:LN)(w:H7)(v:zY)(l:wy α):Prop :=
 ∃b olds,v=FG (Vv ⟨b,0,VX⟩) l.length l.length/\b<w.1.size/\ok b/\Flat V sz ok w olds l/\(∀(j:Nat) (y:zY),olds[j]?=Vv y->w.cell? ⟨b,j,VX⟩=Vv y)/\l.length<=1000000
def iL.moves{V:jx α}(hV:Moves V){ok:LN}{l:wy α}(hm:Mv ok ok' w w')(h:iL V sz ok w v l):iL V sz ok' w' v l:=by
 obtain⟨b,olds,e,hb,ho,hf,hc,hn⟩:=h;exact⟨b,olds,e,cC hb hm.1,(hm.2 b hb ho).1,Flat.moves hV hm _ _ hf,fun j y hy=>(cd (w:=w) (hm.2 b hb ho).2).trans (hc j y hy),hn⟩
def rG{V:jx α}(hV:Moves V)(hu:prog.underlying t=Vv (.slice e))(hi:prog.info? e=Vv i0)(hz:i0.zero=Vv z)(a5:i0.size=sz)(a9:i0.bytes=qS)(aa:z.cells.size=sz)(Hv:qS<=1000)
  {w:H7} (B:Nat) (ok:LN) (v:zY) (l:wy α) (p:α) (a7:iL V sz ok w v l) (g c:Nat) (u:RH)
  (ez:u.length=sz) (ab:V ok w u p) (ae:∀z∈u,z.oneCell'=VR) (hc:∀(j:Nat) (y:zY),u[j]?=Vv y->w.cell? (g,j)=Vv y) (hB:B<=w.1.size) :
  ∃cap w',(Builtin.append_ #[t,t] ty #[v,FG (Vv g) 1 c]).run prog w=.ok (FG (Vv w.1.size) (l.length+1) cap) w' /\
   bF V sz e B ok w' (FG (Vv w.1.size) (l.length+1) cap) (l++[p])/\Below w.1.size w w'/\w.1.size<w'.1.size:=by
 subst a5;subst a9;obtain⟨b,olds,rfl,hb,gR,hf,af,hl⟩:=a7;have hl1:(l++[p]).length=l.length+1:=by simp
 have a8:olds.length=l.length*i0.size:=Flat.length _ _ hf;have hbl:(l.length+1)*i0.bytes<=2000000*1000:=ue WQ Hv;have hr:=run_append_grow (P:=prog) w t ty e i0 z hu hi hz ⟨b,0,VX⟩ l.length l.length olds a8 (fun j y hy=>by
  rw[iz,eJ];exact af j y hy) ⟨g,0,VX⟩ 1 c u WQ (fun j y hy=>by
  rw[iz,eJ];exact hc j y hy) WQ WQ (growslice_fits WQ WQ)
 have jn:Below w.1.size w (w.drew.alloc (Sx (olds.toArray++u.toArray++Builtin.zeroCells z.cells (grownCap w (l.length+1) l.length e-(l.length+1))) e)):=((bj _ _).drew).alloc (bk _) _;have hm:Mv ok ok w (w.drew.alloc (Sx (olds.toArray++u.toArray++Builtin.zeroCells z.cells (grownCap w (l.length+1) l.length e-(l.length+1))) e)):=⟨jn.size,fun b hb gR=>⟨gR,jn.block b hb⟩⟩;have TU:=grownCap_ge w (l.length+1) l.length e;have hcm:grownCap w (l.length+1) l.length e<=maxLen:=grownCap_le_maxLen w _ _ e Tdh;have On:(olds++u).length=(l.length+1)*i0.size:=by rw[cD,a8,ez,P7];omega
 refine⟨_,_,hr,⟨olds++u,⟨by rw[hl1];exact On,.inr ⟨w.1.size,_,_,by rw[hl1],hB,b9 w.drew _,by rw[hl1];exact TU,hcm,?_,?_⟩⟩,(Flat.one ez (hV.mv hm ab) ae).append _ _ (Flat.moves hV hm _ _ hf)⟩,jn,XN⟩
 ·simp only[Array.size_append,List.size_toArray,size_zeroCells,aa,a8,ez];rw[<- ez,show l.length*u.length+u.length=(l.length+1)*u.length from by rw[P7];omega,<- P7,Nat.add_sub_of_le TU]
 simp only[Array.toList_append,cV];rw[<- cV,hl1,<- On];exact List.take_left
def P8{α:Type}(V:jx α)(sz:Nat)(t:TypeId)(B:Nat)(ok:LN)(w:H7)(v:zY)(l:wy α):Prop:=(iL V sz ok w v l/\∀b,v.ownBlock=Vv b->b<B)\/bF V sz t B ok w v l
def ownB(B:Nat)(v:zY)(k:Nat):Prop:=v.ownBlock=Vv k/\B<=k
structure Ad{α:Type}(V:jx α)(sz:Nat)(e:TypeId)(B:Nat)(ok:LN)(w:H7)(v:zY)(l:wy α)(p:α)(gb cap:Nat)(w':H7):Prop where
 own:bF V sz e B ok w' (FG (Vv gb) (l.length+1) cap) (l++[p])
 mod:cR (ownB B v) w w'
 at':ownB B v gb\/(gb=w.heap.size/\gb<w'.heap.size)
def Aq{V:jx α}(hV:Moves V)(hu:prog.underlying t=Vv (.slice e))(hi:prog.info? e=Vv i0)(hz:i0.zero=Vv z)(a7:i0.size=sz)(a8:i0.bytes=qS)(a9:z.cells.size=sz)(zc:0<sz)(Hv:qS<=1000)
  {w:H7} {ops:Array Oper} {rest:wy Oper} {o:Oper} {a:Act} {Q:N2} (ae:o.guard=VX) 
  (ho:o.op=.call { callee:=.builtin .append,args:=#[s,x],argTypes:=#[t,t] })
  (B:Nat) (ok:LN) (v:zY) (l:wy α) (p:α) (hs:a.eval s=v) (a5:P8 V sz e B ok w v l) (g c:Nat) (u:RH) (hx:a.eval x=FG (Vv g) 1 c)
  (ez:u.length=sz) (aa:V ok w u p) (ab:∀z∈u,z.oneCell'=VR) (hc:∀(j:Nat) (y:zY),u[j]?=Vv y->w.cell? (g,j)=Vv y) (hl:l.length<=1000000) (hB:B<=w.1.size)
  (gw:∀b,ownB B v b->¬ok b)
  (h:∀gb cap w',Ad V sz e B ok w v l p gb cap w'->wpList prog ops Q rest (a.put o.dst (FG (Vv ⟨gb,0,VX⟩) (l.length+1) cap)) w'):wpList prog ops Q (o :: rest) a w:=by
 refine wpList_plain ae fun K hK=>?_;rcases a5 with a5|a5
 ·obtain⟨cap,w',hr,h1,h2,h3⟩:=rG (ty:=o.type) hV hu hi hz a7 a8 a9 Hv B ok v l p a5.1 g c u ez aa ab hc hB;unfold Oper.wp execOp;simp only[ho,resolve,invoke,builtin,Sem.run_bind,Sem.run_pure,ud,tS,iu,List.map_nil,hs,hx,hr];exact hK _ _ (h _ cap w' ⟨h1,cR.of_below h2,.inr ⟨rfl,h3⟩⟩)
 have gR:∀b,v.ownBlock=Vv b->ownB B v b:=fun b e=>⟨e,by obtain⟨cs,ho,_⟩:=a5;exact(ho.lt b e).1⟩
 obtain⟨gb,cap,w',hr,hp⟩:=nS (ty:=o.type) hV hu hi hz a7 a8 a9 zc Hv B ok v l p a5 g c u ez aa ab hc hl hB (fun b e=>gw b (gR b e));unfold Oper.wp execOp;simp only[ho,resolve,invoke,builtin,Sem.run_bind,Sem.run_pure,ud,tS,iu,List.map_nil,hs,hx,hr];refine hK _ _ (h gb cap w' ⟨hp.own,⟨hp.grown.os,hp.grown.tape,hp.grown.output,hp.grown.size,fun k hk hn=>hp.grown.block k hk fun e=>hn (gR k e.symm)⟩,?_⟩);have K2:gb<w'.1.size:=by
  obtain⟨cs,ho,_⟩:=hp.own;exact(ho.lt gb lX).2
 rcases hp.at' with q|q
 ·exact .inl (gR gb q)
 exact .inr ⟨q,K2⟩
def P8.moves{V:jx α}(hV:Moves V){ok:LN}{l:wy α}(hm:Mv ok ok' w w')(hk:∀k,ownB B v k->w'.1[k]?=w.1[k]?)(h:P8 V sz t B ok w v l):P8 V sz t B ok' w' v l:=by
 rcases h with⟨h,h2⟩|⟨cs,ho,hf⟩
 ·exact .inl ⟨h.moves hV hm,h2⟩
 exact .inr ⟨cs,aC ho fun k e=>hk k ⟨e,(ho.lt k e).1⟩,Flat.moves hV hm _ _ hf⟩
theorem P8.rd{V:jx α}{ok:LN}{l:wy α}(hV:Moves V)(h:P8 V sz t B ok w v l)(zc:0<sz)(gw:∀b,b<w.1.size->ok b->ok' b)(a5:∀b,ownB B v b->ok' b):ck V sz ok' w [v] l:=by
 rcases h with⟨⟨b,olds,rfl,hb,ho,hf,hc,hn⟩,_⟩|h
 ·refine⟨_,l.length,rfl,bk _,?_,fun _=>⟨b,0,rfl,hb,gw b hb ho,fun i x hx=>?_⟩⟩
  ·omega
  obtain⟨u,k1,k2,k3⟩:=Flat.get l olds hf i x hx;exact⟨u,k1,hV.mv ⟨bk _,fun b a7 ho=>⟨gw b a7 ho,rfl⟩⟩ k2,fun j z hz=>by rw[eJ];exact hc _ _ (k3 j z hz)⟩
 exact h.rd hV zc gw fun b e=>a5 b ⟨e,by obtain⟨cs,ho,_⟩:=h;exact(ho.lt b e).1⟩
inductive lD (id:Int)(c:Int):QN->PI->wy (H6 × H5)->wy ay->Prop
 |nil:lD id c [] [] [] []
 |snoc {ns:QN} {ls:PI} {ps:wy (H6 × H5)} {vl:wy ay} {nm on:H6} {l s:Int} (h:lD id c ns ls ps vl):lD id c (ns++[nm]) (ls++[l]) (ps++[(on,s,l)]) (vl++[eD nm (oX id (c+ns.length+1)) VR l on s])
theorem lD.len{id c:Int}{ns:QN}(h:lD id c ns ls ps vl):vl.length=ns.length:=by
 induction h with
 |nil=>rfl
 |snoc h ih=>simp[ih]
def FV(X:LN)(bs bb:Nat)(nv vv:zY)(g:af)(next:PI)(names:QN)(a5:PI)(w:H7)(e:Ending)(w':H7):Prop :=
 (∃(ps:wy (H6 × H5)) (vl:wy ay) (next':PI) (pA:zY),e=S6 (Ft VR)/\lD g.id g.next names (a5.take names.length) ps vl/\fZ g.Gb next ps next' /\
  aH X bs bb nv vv w w' nv pA { g with next:=g.next+names.length,F9:=g.F9++vl } next') \/
 ∃(j:Nat) (nv' pA:zY),e=S6 (Ft VN)/\j<=names.length/\aH X bs bb nv vv w w' nv' pA { g with next:=g.next+j } next
def eW.vForm(h:eW X w bs bb nv vv g next):∃p cap,vv=FG p (Wq g.F9) cap/\Wq g.F9<=cap/\cap<=9223372036854775807/\(p=VX/\cap=0\/∃b,p=Vv ⟨b,0,VX⟩):=by
 obtain⟨cs,⟨_,h2⟩,_⟩:=h.ownV;rcases h2 with⟨rfl,hn⟩|⟨g,cap,a5,rfl,_,_,vr,hcm,_⟩
 ·exact⟨VX,0,by rw[hn],WQ,WQ,.inl ⟨rfl,rfl⟩⟩
 exact⟨_,cap,rfl,vr,Tds,.inr ⟨_,rfl⟩⟩
def eW.nForm(h:eW X w bs bb nv vv g next)(h0:0<next.length):∃b cap,nv=FG (Vv ⟨b,0,VX⟩) next.length cap/\next.length<=cap/\cap<=9223372036854775807/\bb<b/\b<w.1.size/\ig w b 0 next:=by
 have ho:=h.ownN;rcases ho.2 with⟨rfl,hn⟩|⟨b,cap,a5,rfl,hb,hg,vr,hcm,a7,ht⟩
 ·omega
 refine⟨b,cap,rfl,vr,Tds,WQ,(F1.1 hg).1,fun i n hn=>?_⟩;have:=ho.cellAt i (by have:=(AT.1 hn).1;omega);rw[eJ,this];simp[hn]
def eW.c10(h:eW X w bs bb nv vv g next):w.cell? (XM bb 10)=Vv nv:=by
 exact TcG
def TdQ(h:gt:=by simp[Value.ownBlock]):=h
def CF{o:Oper}
  (ho:o.op=.call { callee:=.builtin .append,args:=#[s,x],argTypes:=#[22,22] })
  (B:Nat) (m:PI) (hs:a.eval s=FG VX 0 0) (b c:Nat) (hx:a.eval x=FG (Vv b) m.length c) (h0:0<m.length)
  (hc:ig w b 0 m) (hl:m.length<=1000000) (hB:B<=w.1.size)
  (h:∀gb cap w',eG w' B (FG (Vv ⟨gb,0,VX⟩) m.length cap) m->Below w.1.size w w'->w.1.size<=gb->gb<w'.1.size->m.length<=cap->cap<=9223372036854775807->K (a.put o.dst (FG (Vv ⟨gb,0,VX⟩) m.length cap)) w'):o.wp prog a w K Q:=by
 obtain⟨i0,hi,du,R0,RC⟩:=gg tZ;obtain⟨v',w',hr,h2,h3,h4,h5⟩:=run_append_own_at (P:=prog) w w.1.size 22 o.type 3 i0 _ 1 8 underlying22 hi du R0 RC lX YR (FG VX 0 0) 0 [] (gS w _ _ 1) ⟨b,0,VX⟩ m.length c (m.map (Bm Sj)) XN (fun j u hu=>by
  rw[iz];obtain⟨n,hn,rfl⟩:∃n,m[j]?=Vv n/\Bm Sj n=u:=by simpa using hu
  exact hc j n hn) (fun u hu=>by
   obtain⟨n,_,rfl⟩:=As.1 hu;rfl) Tdh WQ (bk _)
 rw[eJ,GO]at h2;have h6:=h2.2;rcases h6 with⟨_,hn⟩|⟨gb,cap,a5,rfl,hb,hg,vr,hcm,a7,ht⟩
 ·omega
 unfold Oper.wp execOp;simp only[ho,resolve,invoke,builtin,Sem.run_bind,Sem.run_pure,ud,tS,iu,List.map_nil,hs,hx,hr];have hlt:=h2.lt gb lX;exact h gb cap w' (eG.mono h2 hB) ⟨h3.os,h3.tape,h3.output,h3.size,fun k hk=>h3.block k hk TdQ⟩ hlt.1 hlt.2 vr Tds
def ck.form{V:jx α}{ok:LN}{l:wy α}(h:ck V sz ok w [v] l):∃p cap,v=FG p l.length cap/\l.length<=cap/\cap<=9223372036854775807/\(0<l.length->∃b off,p=Vv ⟨b,off,VX⟩/\b<w.1.size/\ok b/\oh V sz ok w b off l):=by
 obtain⟨p,cap,e,h1,h2,h3⟩:=h;injection e with e;exact⟨p,cap,e,h1,h2,h3⟩
def vg{N':Nat}{p:IH}{xs:RH}(h:w.ownsRow B t sz (FG p N cap) N' xs)(n0:Nat)(hn:n0<=N'):w.ownsRow B t sz (FG p n0 cap) n0 (xs.take (n0*sz)):=by
 obtain⟨h1,h2⟩:=h;have hle:n0*sz<=N'*sz:=tA _ hn;refine⟨by rw[ey,h1];omega,?_⟩;rcases h2 with⟨e,hz⟩|⟨g,a5,a7,e,hb,hg,vr,hcm,a8,ht⟩
 ·injection e with e1 e2 e3;subst hz;obtain rfl:n0=0:=by omega
  exact .inl ⟨by rw[e1,e3],rfl⟩
 injection e with e1 e2 e3;subst e3;refine .inr ⟨g,cap,a7,by rw[e1],hb,hg,WQ,hcm,a8,?_⟩;rw[<- ht,List.take_take,Nat.min_eq_left hle]
def Flat.takeL{V:jx α}{ok:LN}{m:wy α}:∀(l:wy α) (cs:RH),Flat V sz ok w cs (l++m)->Flat V sz ok w (cs.take (l.length*sz)) l
 |[],cs,_=>by simp[Flat]
 |x :: l,cs,⟨u,r,e,h1,h2,h3,h4⟩=>by
  refine⟨u,r.take (l.length*sz),?_,h1,h2,h3,Flat.takeL l r h4⟩;rw[e,cS,P7,Nat.one_mul,List.take_append,h1,jz WQ,show l.length*sz+sz-sz=l.length*sz by omega]
def aH.restore{n0 c:Nat}{p:IH}{v0:wy ay}{a5:PI}(h:aH Y bs bb rK rN w0 w nv (FG p N cap) g next)(hv:g.F9=v0++vl)(hn:v0.length=n0)
  (ho:eG w (bb+1) (FG (Vv gb) a5.length c) a5) (TV:∀k,X k->Y k) (U5:Y gb) (QR:¬X gb) (a8:w0.1.size<=gb) :
  aH X bs bb rK rN w0 ((w.setCell (XM bb 8) (FG p n0 cap)).setCell (XM bb 10) (FG (Vv gb) a5.length c)) (FG (Vv gb) a5.length c) (FG p n0 cap) { g with F9:=v0 } a5:=by
 have hb:=h.bld;have hbl:=hb.Gj;have hlt:=hb.lt;generalize a7:(w.setCell (XM bb 8) (FG p n0 cap)).setCell (XM bb 10) (FG (Vv gb) a5.length c)=w';have hk:∀k,k≠bb->w'.1[k]?=w.1[k]?:=fun k hk=>by rw[<- a7,bw _ _ _ _ hk,bw _ _ _ _ hk]
 have hz:w'.1.size=w.1.size:=by rw[<- a7];simp[AF]
 have gR:∀k,(FG p n0 cap).ownBlock=Vv k->(FG p N cap).ownBlock=Vv k:=fun k e=>by
  cases p with
  |none=>cases e
  |some a=>exact e
 have hgb:=hb.xlt gb U5;have gw:∀b,ZQ Y bb nv (FG p N cap) b->ZQ X bb (FG (Vv gb) a5.length c) (FG p n0 cap) b:=fun b ho=>⟨ho.1,fun e=>ho.2.2.2 (by injection e with e;exact e ▸ U5),fun e=>ho.2.2.1 (gR b e),fun hx=>ho.2.2.2 (TV b hx)⟩
 have hm:Mv (ZQ Y bb nv (FG p N cap)) (ZQ X bb (FG (Vv gb) a5.length c) (FG p n0 cap)) w w':=⟨WQ,fun b _ ho=>⟨gw b ho,hk b TdJ⟩⟩;refine⟨⟨hb.src.keep fun i hi=>hk i WQ,hlt,?_,?_,?_,fun k e e'=>?_,fun k hx=>⟨(hb.xlt k (TV k hx)).1,by rw[hz];exact(hb.xlt k (TV k hx)).2⟩,fun k e hx=>?_,fun k e hx=>hb.xv k (gR k e) (TV k hx)⟩,?_,fun k e=>.inr ?_,fun k e=>h.vfr k (gR k e)⟩
 ·obtain⟨tv,dv,hv,e,h1,h2,h3⟩:=hb.blk;refine⟨tv,dv,hv,?_,(ck.moves aF.moves).mv hm h1,(ck.moves aO.moves).mv hm h2,h3⟩;rw[<- a7];exact block_setCell (cs:=#[_,_,_,_,_,_,_,_,_,_,_]) (i:=10) _ (block_setCell (cs:=#[_,_,_,_,_,_,_,_,_,_,_]) (i:=8) _ e)
 ·exact aC ho fun k e=>hk k (by injection e with e;have e':gb=k:=e;omega)
 ·obtain⟨cs,hr,hf⟩:=hb.ownV;rw[hv]at hr hf;refine⟨cs.take (n0*6),?_,?_⟩
  ·show w'.ownsRow (bb+1) _ 6 (FG p n0 cap) v0.length _;rw[hn];refine aC (w:=w) (vg hr n0 (by rw[cD];omega)) fun k e=>hk k ?_;have:=hb.vLt (gR k e);omega
  have:=Flat.takeL v0 cs hf;rw[hn]at this;exact Flat.moves aN.moves hm _ _ this
 ·have e1:gb=k:=by injection e
  subst e1;exact hb.xv gb (gR gb e') U5
 ·have e1:gb=k:=by injection e
  subst e1;exact QR hx
 ·rw[<- a7];exact(h.mod.setCell (p:=⟨bb,8,VX⟩) (.inl (.inr (.inl lX))) _).setCell (p:=⟨bb,10,VX⟩) (.inl (.inr (.inl lX))) _
 have e1:gb=k:=by injection e
 omega
def Sc{n:Nat}{w w':H7}(h:Below n w w'){o:Nat}(k:b<n):w'.cell? ⟨b,o,VX⟩=w.cell? ⟨b,o,VX⟩:=h.cell (p:=⟨b,o,VX⟩) k
def zi(X:LN)(bs bb:Nat)(nv vv:zY)(g:af)(next:PI){w:H7}(h:eW X w bs bb nv vv g next)(hk:BOk g next)(ft fx:zY)(names:QN)(a5:PI)
  (am:ck aF 1 X w [ft] names) (U6:ck cO 1 X w [fx] a5) (zr:names.length<=a5.length) (aJ:names.length<=8) (aK:a5.length<=8) (ae:∀l∈a5,1<=l/\l<=1000) (mb:Wq g.F9<=40) (aL:g.next<=1000):Calls prog 45 #[SL (Vv bb),ft,fx] w (FV X bs bb nv vv g next names a5 w):=by
 have k0:=hk.n0;have k1:=hk.n1;have k2:=hk.dk.pos;have k3:=hk.dk.le;have aM:0<next.length:=by rw[hk.dk.len];omega
 have aN:next.length<=8:=by rw[hk.dk.len];omega
 have c8:=h.c8;have c10:=h.c10;have cX:=h.Gj;obtain⟨vp,a8,rfl,v1,v2,v3⟩:=h.vForm;obtain⟨nb,ki,rfl,n1,n2,n3,n4,n5⟩:=h.nForm WQ;replace n5:=aa n5;obtain⟨np,X8,rfl,a1,a2,a3⟩:=am.form;obtain⟨lp,X9,rfl,b1,b2,b3⟩:=U6.form;replace a3:=aa a3;clear am;replace b3:=aa b3;clear U6;replace ae:=aa ae;replace v3:=aa v3;go_enter func45,ntmps45;go_wp2;refine gW (fun w'=>w'.cell? (XM bb 8)=Vv (FG vp (Wq g.F9) a8)/\w'.cell? (XM bb 10)=Vv (FG (Vv nb) next.length ki)) 11 [0,1,2,3,6,7,8] Yp ⟨c8,c10⟩ (fun a7=>?_);refine fz 0 ?_;refine fz 1 ?_;refine fz 2 ?_;refine fz 3 ?_;refine fz 6 ?_;refine fz 7 ?_;refine fz 8 ?_;refine fS 4 a7 ?_;refine fS 9 a7 ?_;refine fS 5 a7 ?_;refine lR 10 fun K hK=>?_;refine CF lX (bb+1) next ZR nb ki ZR WQ n5.o WQ cX (fun gb cap w1 ag a9 ao aw aO ah=>?_);refine hK.o _ _ ⟨(Sc a9 cX).trans c8,(Sc a9 cX).trans c10⟩ ?_;clear hK K;refine aP Yp lX ?_;simp only[cQ,cL,Act.put,xT];go_wp2;have R0:=a9.size
 have P1:aH (fD X gb) bs bb (FG (Vv nb) next.length ki) (FG vp (Wq g.F9) a8) w w1 (FG (Vv nb) next.length ki) (FG vp (Wq g.F9) a8) g next:=((aH.refl h).drewN 1).fresh a9 (by
  rintro k (q|rfl)
  ·exact .inl q
  exact .inr ⟨ao,aw⟩)
 replace ag:=aa ag;have U7:w.1.size<=gb:=ao;have QR:¬X gb:=fun q=>by have:=(h.xlt gb q).2;omega
 go_loopw[9] (fun i wr=>∃(k:Nat) (ps:wy (H6 × H5)) (vl:wy ay) (next':PI) (pA:zY),k<=names.length/\i=Bm Sj k/\lD g.id g.next (names.take k) (a5.take k) ps vl/\fZ g.Gb next ps next' /\
   aH (fD X gb) bs bb (FG (Vv nb) next.length ki) (FG vp (Wq g.F9) a8) w wr (FG (Vv nb) next.length ki) pA { g with next:=g.next+k,F9:=g.F9++vl } next'/\wr.1[gb]?=w1.1[gb]?) (fun i _=>names.length-(intOf i).toNat)
 case atStart =>
  refine⟨0,[],[],next,FG vp (Wq g.F9) a8,WQ,rfl,.nil,.nil _,?_,rfl⟩;simpa using P1
 obtain⟨k,ps,vl,next',pA,aQ,rfl,Yb,DB,P,hgb⟩:=hrel;have dk:=DB.ok hk.dk;replace Yb:=aa Yb;replace hgb:=aa hgb;have aR:vl.length<=8:=by have:=Yb.o.len;rw[ey]at this;omega
 have az:BOk { g with next:=g.next+k,F9:=g.F9++vl } next':=⟨dk,ZY,ZY,ZY⟩
 obtain⟨aA,ai,rfl,aB,aS,ab⟩:=P.bld.vForm;replace ab:=aa ab;have d8:=P.bld.c8;have aT:(g.F9++vl).length<=48:=by rw[cD];omega
 simp only at d8 aB P;generalize hM:(g.F9++vl).length=M at *;replace hM:=aa hM;have aq:eG wr (bb+1) (FG (Vv gb) next.length cap) next:=aC ag.o fun q e=>by
  have e1:gb=q:=by injection e
  subst e1;exact hgb.o
 by_cases hlt:k<names.length
 ·by_cases h31:31<=M
  ·have aD:V7 ((31:Int)<=(M:Int))=VR:=by simp;omega
   obtain⟨vb,rfl⟩:∃b,aA=Vv ⟨b,0,VX⟩:=ab.o.resolve_left (fun q=>by omega);have ZZ:Wq g.F9<=M:=by rw[<- hM.o,cD];omega
   have z1:(0:Int)<=(Wq g.F9:Int):=by omega
   have z2:(Wq g.F9:Int)<=(ai:Int):=by omega
   have Z0:=P.bld.bfr 8;have U9:=P.bld.bfr 10;have Va:=P.bld.c10;go_wp2;go_quiet (fail);go_wp2;go_ret;exact .inr ⟨k,_,_,rfl,WQ,(P.drewN nq).restore lX rfl aq (fun q hq=>.inl hq) (.inr lX) QR U7⟩
  have aD:V7 ((31:Int)<=(M:Int))=VN:=by simp;omega
  obtain⟨Lk,au,rfl,Z2,Z3,Yd⟩:=a3.o WQ;obtain⟨ak,av,rfl,Z4,Z5,Ye⟩:=b3.o WQ;obtain⟨nm,pD⟩:=aj names k hlt;obtain⟨ln,TW⟩:=aj a5 k WQ;have Vb:=ae.o ln (ct TW);have Z6:wr.cell? (Lk,au+k)=Vv (By nm):=by
   obtain⟨u,_,hu,hc⟩:=Yd k nm pD;have:=hc 0 (By nm) (by rw[hu];rfl);rw[(cd (w:=w) (P.mod.block Lk Z2 (h.xfp Z3)):wr.cell? (Lk,au+k)=_)];simpa using this
  have aE:wr.cell? (ak,av+k)=Vv (Bm Sj ln):=by
   obtain⟨u,_,hu,hc⟩:=Ye k ln TW;have:=hc 0 (Bm Sj ln) (by rw[hu];rfl);rw[(cd (w:=w) (P.mod.block ak Z4 (h.xfp Z5)):wr.cell? (ak,av+k)=_)];simpa using this
  clear Yd Ye;replace pD:=aa pD;replace TW:=aa TW;have z1:(0:Int)<=(k:Int):=by omega
  have z2:(k:Int)<(names.length:Int):=by omega
  have z3:(k:Int)<(a5.length:Int):=by omega
  go_wp2;(refine il 18 Yp Yp ?_;simp only[xi,iv,cQ,cL];(repeat(go_big_quiet_step (fail)));(with_reducible refine fR ?_);intro wq ia;obtain⟨nq,ia⟩:=ia;subst ia)
  go_wp2_with fail;refine(qw (fD X gb) bs bb _ _ _ next' (P.drewN nq).bld az nm VR k ln WQ Vb.1 WQ).mono ?_;rintro e w2 (⟨rfl,R⟩|⟨on,s,nx,vv2,hT,rfl,R,_⟩)
  ·have R2:=(P.drewN nq).trans R;have ah:eG w2 (bb+1) (FG (Vv gb) next.length cap) next:=aC (w:=wr.drewN nq) aq fun q e=>by
    have e1:gb=q:=by injection e
    subst e1;exact R.loc (P.drewN nq).bld (.inr lX)
   have ZZ:Wq g.F9<=M:=by rw[<- hM.o,cD];omega
   have Z0:=R2.bld.bfr 8;have U9:=R2.bld.bfr 10;have Va:=R2.bld.c10;have aU:=R2.bld.c8;clear Z6 aE d8 c8 c10;rcases ab.o with⟨rfl,hc0⟩|⟨vb,rfl⟩
   ·subst hc0;have aG:M=0:=by omega
    subst aG;have aI:Wq g.F9=0:=by omega
    have z4:(0:Int)<=(Wq g.F9:Int):=by omega
    go_wp2;go_ret;refine .inr ⟨k+1,FG (Vv gb) next.length cap,FG VX 0 0,rfl,WQ,?_⟩;have:=R2.restore (X:=X) (v0:=g.F9) (vl:=vl) lX aI ah (fun q hq=>.inl hq) (.inr lX) QR U7;rw[show g.next+((k+1:Nat):Int)=g.next+k+1 by omega];exact this
   have z4:(0:Int)<=(Wq g.F9:Int):=by omega
   have z5:(Wq g.F9:Int)<=(ai:Int):=by omega
   go_wp2;go_ret;refine .inr ⟨k+1,FG (Vv gb) next.length cap,FG (Vv vb) (Wq g.F9) ai,rfl,WQ,?_⟩;have:=R2.restore (X:=X) (v0:=g.F9) (vl:=vl) lX rfl ah (fun q hq=>.inl hq) (.inr lX) QR U7;rw[show g.next+((k+1:Nat):Int)=g.next+k+1 by omega];exact this
  go_wp2;go_roundw
  case rel =>
   refine⟨k+1,ps++[(on,s,ln)],vl++[eD nm (oX g.id (g.next+k+1)) VR ln on s],nx,vv2,WQ,Zf,?_,DB.trans hT,?_,(R.loc (P.drewN nq).bld (.inr lX)).trans hgb.o⟩
   ·rw[take_snoc' _ _ _ pD.o,take_snoc' _ _ _ TW.o];have:=lD.snoc (nm:=nm) (on:=on) (l:=ln) (s:=s) Yb.o;rw[ey,Nat.min_eq_left WQ]at this;exact this
   rw[show g.next+((k+1:Nat):Int)=g.next+k+1 by omega,<- cV];exact(P.drewN nq).trans R
  simp[intOf];omega
 obtain rfl:k=names.length:=by omega
 go_wp2;go_ret;refine .inl ⟨ps,vl,next',_,rfl,?_,DB,P.fewer (fun q hq=>.inl hq)⟩;have:=Yb.o;rw[cI]at this;exact this
def aV(start n kind:Int)(Ga:wy aR)(done:Int):aB:=⟨start,n,kind,Ga,0,[],es,es,0,0,done⟩
def bg(l:wy aB):Int:=(l.map (·.length)).sum
def iG(x:aB):wy (H6 × H5):=if x.kind=1\/x.kind=8 then x.Ga.map fun a=>(a.on,a.start,x.length) else []
inductive fB (l:wy aB):wy aB->Prop
 |nil:fB l l
 |void {l':wy aB} {n kind:Int} (h:fB l l') (hn:1<=n/\n<=3) (hk:kind=9\/kind=10):fB l (l'++[aV (bg l') n kind [] 0])
 |lin {l':wy aB} {n s:Int} {on:H6} (h:fB l l') (hn:1<=n/\n<=3):fB l (l'++[aV (bg l') n 1 [⟨VN,on,s⟩] 0])
 |move {l':wy aB} {n s s' dn:Int} {on on':H6} (h:fB l l') (hn:1<=n/\n<=3) (hd:0<=dn/\dn<=n):fB l (l'++[aV (bg l') n 8 [⟨VN,on,s⟩,⟨VN,on',s'⟩] dn])
def TcL(h:gt:=by
 obtain⟨cs,ho,_⟩:=h;exact ho.lt k e):=h
def bF.ge0{V:jx α}{ok:LN}{l:wy α}(h:bF V sz t B ok w v l){k:Nat}(e:v.ownBlock=Vv k):B<=k/\k<w.1.size:=by
 exact TcL
def eO(X:LN)(Lv:Nat)(sv:zY):Nat->Prop:=fun k=>X k\/k=Lv\/k=Lv+1\/ownB (Lv+1+1) sv k
structure MSt(X:LN)(bs bb:Nat)(nv vv:zY)(g:af)(next:PI)(w0:H7)(Lv:Nat)(cs:zY->Array zY)(l0:wy aB)(sv:zY)(Gf:wy aB)(ps:wy (H6 × H5))(nx:PI)(w:H7):Prop where
 post:aH (eO X Lv sv) bs bb nv vv w0 w nv vv g nx
 bv:w.heap[Lv]?=Vv (Sx (cs sv) 46 (0,0))
 br:∃zs:Array zY,zs.size=6/\w.heap[Lv+1]?=Vv (Sx zs 46 (0,0))
 st:P8 bC 11 55 (Lv+1+1) (ZQ (eO X Lv sv) bb nv vv) w sv Gf
 more:fB l0 Gf
 took:fZ g.Gb next ps nx
 sub:List.Sublist ((Gf.drop l0.length).flatMap iG) ps
 len:∀x∈Gf,0<=x.length/\x.length<=1000
 lv:w0.heap.size<=Lv
 hB:Lv+1+1<=w.heap.size
section
variable {X:LN}{bs bb:Nat}{nv vv:zY}{g:af}{next:PI}{w0 w w':H7}{Lv:Nat}{cs:zY->Array zY}{l0 Gf:wy aB}{sv:zY}{ps ps':wy (H6 × H5)}{nx nx':PI}
def MSt.step(h:MSt X bs bb nv vv g next w0 Lv cs l0 sv Gf ps nx w)(q:aH (eO X Lv sv) bs bb nv vv w w' nv vv g nx')(ht:fZ g.Gb nx ps' nx'):MSt X bs bb nv vv g next w0 Lv cs l0 sv Gf (ps++ps') nx' w':=by
 obtain⟨zs,hz,hr⟩:=h.br;exact⟨h.post.trans q,(q.loc h.post.bld (.inr (.inl lX))).trans h.bv,⟨zs,hz,(q.loc h.post.bld (.inr (.inr (.inl lX)))).trans hr⟩,h.st.moves bC.moves ⟨q.mod.size,fun b hb ho=>⟨ho,q.loc' h.post.bld ho hb⟩⟩ (fun k hk=>q.loc h.post.bld (.inr (.inr (.inr hk)))),h.more,h.took.trans ht,h.sub.trans (List.sublist_append_left _ _),h.len,h.lv,cA h.hB q.mod.size⟩
def MSt.below(h:MSt X bs bb nv vv g next w0 Lv cs l0 sv Gf ps nx w)(hb:Below w.1.size w w'):MSt X bs bb nv vv g next w0 Lv cs l0 sv Gf ps nx w':=by
 have:=h.step ((aH.refl h.post.bld).after hb) (.nil _);simpa using this
def MSt.read(h:MSt X bs bb nv vv g next w0 Lv cs l0 sv Gf ps nx w)(hs:Src w' bs)(hm:cR (fun i=>i=bs) w w'):MSt X bs bb nv vv g next w0 Lv cs l0 sv Gf ps nx w':=by
 have:=h.step (h.post.bld.readPost hs hm) (.nil _);simpa using this
def MSt.fresh(h:MSt X bs bb nv vv g next w0 Lv cs l0 sv Gf ps nx w)(o:Obj):MSt (fD X w.1.size) bs bb nv vv g next w0 Lv cs l0 sv Gf ps nx (w.alloc o):=by
 have hb:=ae w o;have a5:Lv<w.1.size:=by have:=h.hB;omega
 obtain⟨zs,hz,hr⟩:=h.br;refine⟨h.post.fresh hb (fun k hk=>?_),(hb.block Lv a5).trans h.bv,⟨zs,hz,(hb.block (Lv+1) (by have:=h.hB;omega)).trans hr⟩,h.st.moves bC.moves ⟨hb.size,fun b a7 ho=>⟨⟨ho.1,ho.2.1,ho.2.2.1,fun q=>?_⟩,hb.block b a7⟩⟩ (fun k hk=>hb.block k (h.post.bld.xlt k (.inr (.inr (.inr hk)))).2),h.more,h.took,h.sub,h.len,h.lv,cA h.hB hb.size⟩
 ·rcases hk with(q|rfl)|q
  ·exact .inl (.inl q)
  ·exact .inr ⟨bk _,XN⟩
  exact .inl (.inr q)
 rcases q with(q|rfl)|q
 ·exact ho.2.2.2 (.inl q)
 ·omega
 exact ho.2.2.2 (.inr q)
theorem MSt.drop{L:Nat}(h:MSt (fD X L) bs bb nv vv g next w0 Lv cs l0 sv Gf ps nx w):MSt X bs bb nv vv g next w0 Lv cs l0 sv Gf ps nx w:=by
 have hY:∀k,eO X Lv sv k->eO (fD X L) Lv sv k:=fun k q=>q.imp (fun q=>.inl q) id;exact⟨h.post.fewer hY,h.bv,h.br,h.st.moves bC.moves ⟨bk _,fun b _ ho=>⟨⟨ho.1,ho.2.1,ho.2.2.1,fun q=>ho.2.2.2 (hY b q)⟩,rfl⟩⟩ (fun _ _=>rfl),h.more,h.took,h.sub,h.len,h.lv,h.hB⟩
def Teu(h:gt:=by rw[hz];exact h.hB):=h
def MSt.put{L:Nat}(h:MSt (fD X L) bs bb nv vv g next w0 Lv cs l0 sv Gf ps nx w)(hL:Lv+1+1<=L)(hsv:sv.ownBlock≠Vv L)(i:Nat)(u:zY):MSt (fD X L) bs bb nv vv g next w0 Lv cs l0 sv Gf ps nx (w.setCell (L,i) u):=by
 have kk:∀k,k≠L->(w.setCell (L,i) u).1[k]?=w.1[k]?:=fun k e=>bw _ _ _ _ e;have hz:(w.setCell (L,i) u).1.size=w.1.size:=by simp[AF]
 obtain⟨zs,a5,hr⟩:=h.br;exact⟨h.post.put L i u (.inl (.inr lX)) (by have:=h.lv;omega),(kk Lv WQ).trans h.bv,⟨zs,a5,(kk (Lv+1) WQ).trans hr⟩,h.st.moves bC.moves ⟨WQ,fun b _ ho=>⟨ho,kk b (fun e=>ho.2.2.2 (.inl (.inr e)))⟩⟩ (fun k hk=>kk k (fun e=>hsv (e ▸ hk.1))),h.more,h.took,h.sub,h.len,h.lv,Teu⟩
def MSt.svLt(h:MSt X bs bb nv vv g next w0 Lv cs l0 sv Gf ps nx w){k:Nat}(e:sv.ownBlock=Vv k):k<w.1.size:=by
 rcases h.st with⟨⟨b,olds,rfl,hb,_⟩,_⟩|ho
 ·obtain rfl:b=k:=by injection e
  exact hb
 exact(ho.ge0 e).2
def Teh(h:gt:=by have:=(ho.lt k e).1;omega):=h
theorem MSt.push{w1 w2:H7}{x:aB}{gb:Nat}(h:MSt X bs bb nv vv g next w0 Lv cs l0 sv Gf ps nx w)(hb:Below w.1.size w w1)
  (hp:Ad bC 11 55 (Lv+1+1) (fun b=>ZQ (eO X Lv sv) bb nv vv b/\b<w.1.size) w1 sv Gf x gb cap w2) (hm:fB l0 (Gf++[x])) (hs:List.Sublist (((Gf++[x]).drop l0.length).flatMap iG) ps) (hx:0<=x.length/\x.length<=1000)
  (a8:∀u v,(cs u).setIfInBounds 5 v=cs v):MSt X bs bb nv vv g next w0 Lv cs l0 (FG (Vv gb) (Gf.length+1) cap) (Gf++[x]) ps nx (w2.setCell (XM Lv 5) (FG (Vv gb) (Gf.length+1) cap))/\w2.1[Lv]?=Vv (Sx (cs sv) 46 (0,0)):=by
 have h1:=h.below hb;have a5:=h.lv;have hB:=h.hB;have hz:=hb.size;have RC:=hp.mod.size;have kk:∀k,k≠Lv->(w2.setCell (XM Lv 5) (FG (Vv gb) (Gf.length+1) cap)).1[k]?=w2.1[k]?:=fun k e=>bw _ _ _ _ e;have a7:(w2.setCell (XM Lv 5) (FG (Vv gb) (Gf.length+1) cap)).1.size=w2.1.size:=by simp[AF]
 have Yf:w2.1[Lv]?=Vv (Sx (cs sv) 46 (0,0)):=(hp.mod.block Lv WQ (fun q=>by have:=q.2;omega)).trans h1.bv;have hg:=hp.own.ge0 (k:=gb) lX;have hY:∀k,eO X Lv (FG (Vv gb) (Gf.length+1) cap) k->eO X Lv sv k\/(w1.1.size<=k/\k<w2.1.size):=by
  rintro k (q|q|q|q)
  ·exact .inl (.inl q)
  ·exact .inl (.inr (.inl q))
  ·exact .inl (.inr (.inr (.inl q)))
  obtain rfl:gb=k:=by injection q.1
  rcases hp.at' with q|q
  ·exact .inl (.inr (.inr (.inr q)))
  exact .inr ⟨WQ,q.2⟩
 refine⟨⟨h1.post.move (((hp.mod.mono (G:=fun k=>eO X Lv sv k/\w0.1.size<=k) (fun k q=>⟨.inr (.inr (.inr q)),by have:=q.2;omega⟩))).setCell (p:=⟨Lv,5,VX⟩) (.inl ⟨.inr (.inl lX),a5⟩) _) (fun k hk=>(hY k hk).imp id (fun q=>by rw[a7];exact q)),?_,?_,.inr ?_,hm,h.took,hs,fun y hy=>?_,a5,by rw[a7];omega⟩,Yf⟩
 ·rw[<- a8 sv];exact block_setCell (i:=5) _ Yf
 ·obtain⟨zs,a9,hr⟩:=h1.br;exact⟨zs,a9,(kk (Lv+1) WQ).trans ((hp.mod.block (Lv+1) WQ (fun q=>by have:=q.2;omega)).trans hr)⟩
 ·obtain⟨cl,ho,hf⟩:=hp.own;refine⟨cl,aC ho fun k e=>kk k Teh,Flat.moves bC.moves ⟨WQ,fun b _ ho=>⟨⟨ho.1.1,ho.1.2.1,ho.1.2.2.1,fun q=>?_⟩,kk b (fun e=>ho.1.2.2.2 (.inr (.inl e)))⟩⟩ _ _ hf⟩;rcases hY b q with q|q
  ·exact ho.1.2.2.2 q
  have:=ho.2;omega
 rcases AS.1 hy with q|q
 ·exact h.len y q
 simp only[dr,cY,dg]at q;rw[q];exact hx
end
variable {P:Program}{ops:Array Oper}{Q:N2}{a:Act}{w:H7}{md:Region.Mode}{S:H7->Prop}{N:Nat->Bool}{fuel i j:Nat}{listed:Array Bool}{o':Oper}
def FT(X:LN)(bs bb:Nat)(nv vv:zY)(g:af)(next:PI)(name:H6)(id:Int)(hidden ro:Bool)(tv:zY)(x0:aB)(w:H7)(e:Ending)(w':H7):Prop :=
 ∃(sv:zY) (Gf:wy aB) (ps:wy (H6 × H5)) (next':PI),e=S6 (Tk #[name,Bm U8 id,hidden,ro,tv,sv])/\fB [x0] Gf/\Gf.length<=3/\fZ g.Gb next ps next'/\List.Sublist ((Gf.drop 1).flatMap iG) ps /\
  aH X bs bb nv vv w w' nv vv g next'/\ck bC 11 (ZQ X bb nv vv) w' [sv] Gf
theorem kW{id:Nat}(S:H7->Prop)(N:Nat->Bool)(hm:P.follows .mixedOrders=VR)(hS:S w.drew)
  (h:S w.drew->bG P .any ops Q S N ops.size (GW ops.size VN) a w.drew):(Code.region id ops VR).wp P Q a w :=
 wp_region_any hm (mF _ _ _ _ (h hS))
def eB{l:wy Oper}(m:Nat)(hN:∀t,m<=t->N t=VN)(hB:KK md l.toArray (l.toArray.size-m) m listed=VR)(hf:fuel=(l.drop m).length)(h:wpList P l.toArray Q (l.drop m) a w):bG P md l.toArray Q S N fuel listed a w:=by
 rw[hf];exact gM (l.drop m) m listed a w hN (fun j=>by simp[pk]) (by simpa using hB) h
def ja{o:Oper}(hi:ops[i]?=Vv o)(hg:o.guard=VX)(hj:ops[j]?=Vv o')(a5:o'.guard=VX)(hr:BE md ops listed=[i,j])
  (h1:∀K:Act->H7->Prop,Hid (∀a' w',(N i=VR->S w')->bG P md ops Q S N fuel (listed.setIfInBounds i VR) a' w'->K a' w')->o.wp P a w K Q)
  (h2:∀K:Act->H7->Prop,Hid (∀a' w',(N j=VR->S w')->bG P md ops Q S N fuel (listed.setIfInBounds j VR) a' w'->K a' w')->o'.wp P a w K Q):bG P md ops Q S N (fuel+1) listed a w:=by
 refine⟨fun h0=>TdI,fun k hk=>?_⟩;rw[hr]at hk;simp only[dr,cY,dg]at hk;rcases hk with rfl|rfl
 ·have hw:Cd o (yielded ops a.tmps)=VR:=by simp[Cd,hg]
  unfold wpOp;simp only[hi,hw,ej];exact .inl (h1 _ (aa fun a' w' q1 q2=>⟨q1,q2⟩))
 have hw:Cd o' (yielded ops a.tmps)=VR:=by simp[Cd,a5]
 unfold wpOp;simp only[hj,hw,ej];exact .inl (h2 _ (aa fun a' w' q1 q2=>⟨q1,q2⟩))
def bS{o:Oper}(hi:ops[i]?=Vv o)(hg:o.guard=VX)(hr:BE md ops listed=[i])
  (h:∀K:Act->H7->Prop,Hid (∀a' w',(N i=VR->S w')->bG P md ops Q S N fuel (listed.setIfInBounds i VR) a' w'->K a' w')->o.wp P a w K Q):bG P md ops Q S N (fuel+1) listed a w:=by
 refine⟨fun h0=>TdI,fun k hk=>?_⟩;rw[hr]at hk;obtain rfl:k=i:=by simpa using hk
 have hw:Cd o (yielded ops a.tmps)=VR:=by simp[Cd,hg]
 unfold wpOp;simp only[hi,hw,ej];exact .inl (h _ (aa fun a' w' q1 q2=>⟨q1,q2⟩))
def Tcs(h:gt:=by
 unfold wpOp;simp only[hi,hw,ej];exact .inl (h1 _ (aa fun a' w' q1 q2=>⟨fun _=>q1,q2⟩))):=h
def mh{o:Oper}(hi:ops[i]?=Vv o)(hg:o.guard=VX)(hj:ops[j]?=Vv o')(a5:o'.guard=VX)(hr:BE md ops listed=[i,j])
  (h1:∀K:Act->H7->Prop,Hid (∀a' w',S w'->bG P md ops Q S N fuel (listed.setIfInBounds i VR) a' w'->K a' w')->o.wp P a w K Q)
  (h2:∀K:Act->H7->Prop,Hid (∀a' w',S w'->bG P md ops Q S N fuel (listed.setIfInBounds j VR) a' w'->K a' w')->o'.wp P a w K Q):bG P md ops Q S N (fuel+1) listed a w:=by
 refine⟨fun h0=>TdI,fun k hk=>?_⟩;rw[hr]at hk;simp only[dr,cY,dg]at hk;rcases hk with rfl|rfl
 ·have hw:Cd o (yielded ops a.tmps)=VR:=by simp[Cd,hg]
  exact Tcs
 have hw:Cd o' (yielded ops a.tmps)=VR:=by simp[Cd,a5]
 unfold wpOp;simp only[hj,hw,ej];exact .inl (h2 _ (aa fun a' w' q1 q2=>⟨fun _=>q1,q2⟩))
structure fw(X:LN)(bs bb:Nat)(nv vv:zY)(g:af)(next:PI)(w0:H7)(Lv:Nat)(cs:zY->Array zY)(l0:wy aB)(sv:zY)(Gf:wy aB)(ps:wy (H6 × H5))(nx:PI)(L:Nat)(xs:Array zY)(w:H7):Prop where
 m:MSt X bs bb nv vv g next w0 Lv cs l0 sv Gf ps nx w
 lx:w.heap[L]?=Vv (Sx xs 55 (0,0))
 xl:X L
section
variable {X:LN}{bs bb:Nat}{nv vv:zY}{g:af}{next:PI}{w0 w w':H7}{Lv L A:Nat}{cs:zY->Array zY}{l0 Gf:wy aB}{sv:zY}{ps ps':wy (H6 × H5)}{nx nx':PI}{xs:Array zY}
def fw.step(h:fw X bs bb nv vv g next w0 Lv cs l0 sv Gf ps nx L xs w)(q:aH (eO X Lv sv) bs bb nv vv w w' nv vv g nx')(ht:fZ g.Gb nx ps' nx'):fw X bs bb nv vv g next w0 Lv cs l0 sv Gf (ps++ps') nx' L xs w' :=
 ⟨h.m.step q ht,(q.loc h.m.post.bld (.inl h.xl)).trans h.lx,h.xl⟩
def fw.below(h:fw X bs bb nv vv g next w0 Lv cs l0 sv Gf ps nx L xs w)(hb:Below w.1.size w w'):fw X bs bb nv vv g next w0 Lv cs l0 sv Gf ps nx L xs w':=⟨h.m.below hb,(hb.block L (aq h.lx)).trans h.lx,h.xl⟩
def fw.read(h:fw X bs bb nv vv g next w0 Lv cs l0 sv Gf ps nx L xs w)(hs:Src w' bs)(hm:cR (fun i=>i=bs) w w'):fw X bs bb nv vv g next w0 Lv cs l0 sv Gf ps nx L xs w' :=
 ⟨h.m.read hs hm,((h.m.post.bld.readPost hs hm).loc h.m.post.bld (.inl h.xl)).trans h.lx,h.xl⟩
def fw.fresh(h:fw X bs bb nv vv g next w0 Lv cs l0 sv Gf ps nx L xs w)(o:Obj):fw (fD X w.1.size) bs bb nv vv g next w0 Lv cs l0 sv Gf ps nx L xs (w.alloc o) :=
 ⟨h.m.fresh o,(cj _ _ _ (aq h.lx)).trans h.lx,.inl h.xl⟩
def fw.put(h:fw (fD X A) bs bb nv vv g next w0 Lv cs l0 sv Gf ps nx L xs w)(hA:Lv+1+1<=A)(hsv:sv.ownBlock≠Vv A)(hne:L≠A)(i:Nat)(u:zY):fw (fD X A) bs bb nv vv g next w0 Lv cs l0 sv Gf ps nx L xs (w.setCell (A,i) u) :=
 ⟨h.m.put hA hsv i u,(bw _ _ _ _ hne).trans h.lx,h.xl⟩
end
def mo(w:H7)(t:TypeId)(l:PI):ig (w.alloc (Sx (l.map (Bm Sj)).toArray t)) w.1.size 0 l:=fun i v hv=>aD lX (by simp[hv])
def om(l:wy aB)(k:Nat)(x:aB)(h:l[k]?=Vv x):bg (l.take (k+1))=bg (l.take k)+x.length:=by
 rw[take_snoc' l k x h];simp[bg]
def Bb(l:wy aB)(h:∀x∈l,0<=x.length/\x.length<=1000):0<=bg l/\bg l<=1000*l.length:=by
 induction l with
 |nil=>simp[bg]
 |cons x l ih =>
  have h1:=h x (cG ..);have h2:=ih fun y hy=>h y (kn _ hy);simp only[bg,iu,List.sum_cons,cS]at h2 ⊢;omega
def fB.len{l l':wy aB}(h:fB l l'):l.length<=l'.length:=by
 induction h with
 |nil=>exact bk _
 |void _ _ _ ih=>simp;omega
 |lin _ _ ih=>simp;omega
 |move _ _ _ ih=>simp;omega
def fB.sub{l0 Gf:wy aB}{ps1:wy (H6 × H5)}{x:aB}(h:fB l0 Gf)(hs:List.Sublist ((Gf.drop l0.length).flatMap iG) ps)(hx:iG x=ps1):List.Sublist (((Gf++[x]).drop l0.length).flatMap iG) (ps++ps1):=by
 rw[List.drop_append_of_le_length h.len,xt];refine hs.append ?_;simp[hx]
def kX(n:Nat):Code->Option Code
 |.region m o d=>bif Nat.beq m n then Vv (.region m o d) else VX
 |.seq a b=>match kX n a with
  |some c=>Vv c
  |none=>kX n b
 |.block _ c=>kX n c
 |.loop c=>kX n c
 |.scope c=>kX n c
 |.cond _ a b=>match kX n a with
  |some c=>Vv c
  |none=>kX n b
 |_=>VX
noncomputable def p9(n:Nat):Code:=((Tryz.f17.body.bind (kX n)).getD .skip)
section
variable {X:LN}{bs bb:Nat}{nv vv:zY}{g:af}{next:PI}{w0 w w':H7}{Lv L A:Nat}{cs:zY->Array zY}{l0 Gf:wy aB}{sv:zY}{ps ps':wy (H6 × H5)}{nx nx':PI}{xs:Array zY}
def fw.drop(h:fw (fD X A) bs bb nv vv g next w0 Lv cs l0 sv Gf ps nx L xs w)(hX:X L):fw X bs bb nv vv g next w0 Lv cs l0 sv Gf ps nx L xs w:=⟨h.m.drop,h.lx,hX⟩
def MSt.putX(h:MSt X bs bb nv vv g next w0 Lv cs l0 sv Gf ps nx w)(hX:X L)(hL:Lv+1+1<=L)(hsv:sv.ownBlock≠Vv L)(i:Nat)(u:zY):MSt X bs bb nv vv g next w0 Lv cs l0 sv Gf ps nx (w.setCell (L,i) u):=by
 have kk:∀k,k≠L->(w.setCell (L,i) u).1[k]?=w.1[k]?:=fun k e=>bw _ _ _ _ e;have hz:(w.setCell (L,i) u).1.size=w.1.size:=by simp[AF]
 obtain⟨zs,a5,hr⟩:=h.br;exact⟨h.post.put L i u (.inl hX) (by have:=h.lv;omega),(kk Lv WQ).trans h.bv,⟨zs,a5,(kk (Lv+1) WQ).trans hr⟩,h.st.moves bC.moves ⟨WQ,fun b _ ho=>⟨ho,kk b (fun e=>ho.2.2.2 (.inl (e ▸ hX)))⟩⟩ (fun k hk=>kk k (fun e=>hsv (e ▸ hk.1))),h.more,h.took,h.sub,h.len,h.lv,Teu⟩
def fw.lit(h:fw X bs bb nv vv g next w0 Lv cs l0 sv Gf ps nx L xs w)(hL:Lv+1+1<=L)(hsv:sv.ownBlock≠Vv L)(us:Array zY) :
  fw (fD X w.1.size) bs bb nv vv g next w0 Lv cs l0 sv Gf ps nx L (xs.setIfInBounds 3 (FG (Vv w.1.size) 1 1)) ((w.alloc (Sx us 53)).setCell (XM L 3) (FG (Vv w.1.size) 1 1)) /\
  ((w.alloc (Sx us 53)).setCell (XM L 3) (FG (Vv w.1.size) 1 1)).1[w.1.size]?=Vv (Sx us 53 (0,0))/\ZQ (eO X Lv sv) bb nv vv w.1.size:=by
 have h1:=h.fresh (Sx us 53);have hlt:=aq h.lx;exact⟨⟨h1.m.putX (.inl h.xl) hL hsv 3 _,block_setCell (i:=3) _ h1.lx,h1.xl⟩,(bw _ _ _ _ (show w.1.size≠L by omega)).trans (b9 w _),h.m.post.bld.okNew (bk _)⟩
def fw.area(h:fw X bs bb nv vv g next w0 Lv cs l0 sv Gf ps nx L xs w)(hk:BOk g next)(d:Nat)(hd:d<Wq g.Gb)(n:Int)(a5:1<=n)(hn1:n<=1000):Calls prog 43 #[SL (Vv bb),Bm Sj d,Bm Sj n] w fun e w'=>∃(on:H6) (s:Int) (ok:Bool) (ps1:wy (H6 × H5)) (nx1:PI),e=S6 (Vj #[Tk (Tat on s),ok])/\(ok=VR->ps1=[(on,s,n)]) /\
   fw X bs bb nv vv g next w0 Lv cs l0 sv Gf (ps++ps1) nx1 L xs w'/\w'.1[bb]?=w.1[bb]?/\(∀k,X k->w'.1[k]?=w.1[k]?):=by
 have dk:=h.m.took.ok hk.dk;obtain⟨D,hD⟩:=aj g.Gb d hd;obtain⟨m,hm⟩:=aj nx d (by rw[dk.len];exact hd);have QK:=dk.nx d m hm;refine(qR (eO X Lv sv) bs bb nv vv g nx h.m.post.bld d D m n hD hm QK.1 WQ WQ WQ).mono ?_;rintro e w' (⟨rfl,Q,hb⟩|⟨s,hs1,hs2,rfl,Q,hb⟩)
 ·exact⟨es,0,VN,[],nx,rfl,(fun e=>by cases e),h.step Q (.nil _),hb,fun k q=>Q.loc h.m.post.bld (.inl q)⟩
 exact⟨D.name,s,VR,[(D.name,s,n)],_,rfl,(fun _=>rfl),h.step Q (.snoc (.nil _) hD hm hs1 hs2 a5),hb,fun k q=>Q.loc h.m.post.bld (.inl q)⟩
end
def oH{w:H7}{t:TypeId}{z0 z1 z2:zY}(h:w.1[A]?=Vv (Sx #[z0,z1,z2] t (0,0))){v0 v2:zY}:(((w.setCell A v0).setCell (XM A 1) v1).setCell (XM A 2) v2).1[A]?=Vv (Sx #[v0,v1,v2] t (0,0)) :=
 block_setCell (i:=2) _ (block_setCell (i:=1) _ (block_setCell (i:=0) _ h))
def iB(kind len:Int)(Ga:Nat):Int:=if kind=2/\0<Ga then len/Ga else len
def TaB(x0:Int)(x1:Int)(x2:Int)(x3:Nat)(x4:IH)(x5:Nat)(x6:Int)(x7:Nat)(x8:IH)(x9:Nat)(a5:H6)(a7:H6)(a8:Int)(a9:Int)(aa:Int):Tab #[Bm Sj x0,Bm Sj x1,Bm Sj x2,FG x4 x3 x5,Bm Sj x6,FG x8 x7 x9,By a5,By a7,Bm Sj a8,Bm Sj a9,Bm Sj aa]:=⟨⟩
def Tba(h:gt:=by
 by_cases hk:kd=2
 ·subst hk;by_cases hz:al=0
  ·subst hz;go_wp2;go_ret;exact⟨by simp[iB],HB.o⟩
  have hd:V7 ((0:Int)<(al:Int))=VR:=by simp;omega
  have hn:¬(al:Int)=0:=by omega
  have hn1:((al:Int)==0)=VN:=by simpa using hz
  have hq0:0<=len/(al:Int):=lz h0 WQ;have hq1:len/(al:Int)<=len:=mS _ h0;have hq2:len.tdiv (al:Int)=len/(al:Int):=CC h0;have hq3:IntKind.i64.wrap (len/(al:Int))=len/(al:Int):=dy _ WQ;go_wp2;go_ret;exact⟨by simp[iB,show 0<al by omega],HB.o⟩
 have hk1:(kd==2)=VN:=by simpa using hk
 go_wp2;go_ret;exact⟨by simp[iB,hk],HB.o⟩):=h
def ji(st len kd ch a5 mode dn:Int)(ap sp:IH)(al ac sl sc:Nat)(log pool:H6)(w:H7)(h0:0<=len)(h1:len<=9223372036854775807)(ha:al<=1000000):Calls prog 73 #[Tk (TaB st len kd al ap ac ch sl sp sc log pool a5 mode dn)] w fun e w'=>e=S6 (Bm Sj (iB kd len al))/\Below w.1.size w w':=by
 have HB:=aa (ae w (Sx (TaB st len kd al ap ac ch sl sp sc log pool a5 mode dn) 55));go_enter func73,ntmps73
 exact Tba
end Go.Proofs.YtfmbphdjcghfnaaGreatDoor
