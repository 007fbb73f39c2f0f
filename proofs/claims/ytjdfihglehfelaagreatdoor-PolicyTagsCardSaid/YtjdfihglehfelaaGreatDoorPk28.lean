/- Lemmas: NeeB, NeeC. -/
import Derived.Test.YtjdfihglehfelaaGreatDoorPk24
set_option maxRecDepth 100000
set_option maxHeartbeats 32000000
set_option linter.all false
namespace Go.Proofs.YtjdfihglehfelaaGreatDoor
open Go.RowKit Go.Maps Go.Shelf
theorem dF.ne {w:World}{B b:Nat}{v:Value}{l:List ByteArray}{cs:Array Value}{t:TypeId}{z:Nat × Nat}(h:dF w B v l)(hb:w.heap[b]?=some (.cells cs t z))(ht:t≠9):v.ownBlock≠some b:=fun e=>by
 obtain ⟨-,h2⟩:=h;rcases h2 with ⟨rfl,_⟩ | ⟨g,cap,cur,rfl,_,hg,_⟩
 ·cases e
 ·have:g=b:=by simpa [Value.ownBlock] using e
  subst this;rw [hb] at hg;injection hg with hg
  injection hg with _ e2
  exact ht e2
theorem RdS.flatT {ok:Nat→Prop}{w:World}{a:Addr}{c:Nat}{l:List ByteArray}(h:RdS aF 1 ok w [.slice (some a) l.length c] l):∀ (j:Nat) (u:Value),(l.map Value.string)[j]?=some u→w.cell? (a.add j)=some u:=fun j u hu=>by
 rw [List.getElem?_map] at hu;obtain ⟨x,hx,rfl⟩:=Option.map_eq_some_iff.1 hu;obtain ⟨b,off,us,e,_,_,_,hv,hc⟩:=h.elem hx;obtain rfl:a=_:=Option.some.inj e;obtain rfl:us=_:=hv;have:=hc 0 _ rfl;rw [Addr.add_lit];simpa using this
theorem mW {ok:Nat→Prop}{w:World}{ops:Array Oper}{rest:List Oper}{o:Oper}{a:Act}{Q:Exit→Act→World→Prop}(hgd:o.guard=none)(s x:Operand)
  (ho:o.op=.call { callee:=.builtin .append,args:=#[s,x],argTypes:=#[26,26] })
  (B:Nat) (v:Value) (l ps:List ByteArray) (hs:a.eval s=v) (hown:dF w B v l) (p:Option Addr) (c:Nat) (hx:a.eval x=.slice p ps.length c) (hr:RdS aF 1 ok w [.slice p ps.length c] ps)
  (hl:l.length+ps.length≤100000000) (hB:B≤w.heap.size)
  (h:∀ v' w',dF w' B v' (l++ps)→Below B w w'→w.grownBy w' v.ownBlock→wpList Tryz.prog ops Q rest (a.put o.dst v') w'):wpList Tryz.prog ops Q (o :: rest) a w:=by
 obtain ⟨i0,hi,hz0,hz1,hz2⟩:=info_parts o5;cases p with
 | none =>
  have hp:ps=[]:=by
   obtain ⟨p',c',e,_,_,h3⟩:=hr;simp only [List.cons.injEq,Value.slice.injEq,and_true] at e;have e1:=e.1;cases ps with
   | nil=>rfl
   | cons y ys =>
    obtain ⟨b,off,e4,_⟩:=h3 (by simp);rw [← e1] at e4;cases e4
  subst hp;refine wpList_plain hgd fun K hK=>?_
  have hrun:(Builtin.append_ #[26,26] o.type #[v,.slice none 0 c]).run Tryz.prog w=.ok v w:=by
   rcases hown.2 with ⟨rfl,_⟩ | ⟨g,cap,cur,rfl,_,_,hnc,_⟩
   ·simp [Builtin.append_,run_underlying Tryz.underlying26,sizeOf,typeInfo,hi,Builtin.lenOf,Builtin.firstCells]
   ·simp [Builtin.append_,run_underlying Tryz.underlying26,sizeOf,typeInfo,hi,Builtin.lenOf,Builtin.firstCells,hnc,storeCells]
  unfold Oper.wp execOp;simp only [ho,resolve,invoke,builtin,Sem.run_bind,Sem.run_pure,Result.andThen_ok,List.map_toArray,List.map_cons,List.map_nil,hs,hx,List.length_nil,hrun];exact hK _ _ (h v w (by rw [List.append_nil];exact hown) (Below.refl _ _) ⟨rfl,rfl,rfl,Nat.le_refl _,fun _ _ _=>rfl⟩)
 | some ad =>
  refine wpList_append_own w hgd s x 26 ho B 9 i0 _ 1 16 Tryz.underlying26 hi hz0 hz1 hz2 rfl (by decide) v l.length (l.map Value.string) hs hown ad ps.length c (ps.map Value.string) hx (by simp) hr.flatT (by simp [Value.oneCell']) (by unfold maxLen;omega) (by omega) hB (fun v' w' ho' hg _=>?_);refine h v' w' ?_ ((Below.refl B w).grown hg hB (fun k hk=>(World.ownsRow.lt hown k hk).1)) hg;unfold dF;rw [List.map_append,List.length_append];exact ho'
def je (l:List aB):List ByteArray:=l.flatMap rQ
theorem BX {l:List aB}{k:Nat}:(je (l.take k)).length≤(je l).length:=by
 conv=>rhs;rw [← List.take_append_drop k l]
 unfold je;rw [List.flatMap_append,List.length_append];omega
theorem yT {l:List aB}{k:Nat}{s:aB}(h:l[k]?=some s):je (l.take (k+1))=je (l.take k)++(s.Ga.filter (·.vol)).map (·.on)++(if s.log.toList.isEmpty then [] else [s.log])++(if s.pool.toList.isEmpty then [] else [s.pool]):=by
 rw [take_snoc' l k s h];simp [je,rQ]
def vP (l:List aR):List ByteArray:=(l.filter (·.vol)).map (·.on)
theorem Df (l:List aR):(vP l).length≤l.length:=by
 unfold vP;rw [List.length_map];exact List.length_filter_le ..
theorem BA {l:List aR}{k:Nat}{x:aR}(h:l[k]?=some x):vP (l.take (k+1))=vP (l.take k)++if x.vol=true then [x.on] else []:=by
 rw [take_snoc' l k x h];unfold vP;cases hv:x.vol <;> simp [hv]
theorem BH {ok:Nat→Prop}(v:ay)(u:List Value)(w:World)(hv:aN ok w u v)(hz:qD v)(hl:(kY v).length≤1000000) :
  Calls Tryz.prog 199 #[.agg u.toArray] w (Dx w.heap.size w (kY v)):=by
 obtain ⟨tv,sv,rfl,htr,hsr⟩:=hv;obtain ⟨tp,tc,rfl,_,_⟩:=htr.cap;obtain ⟨sp,sc,rfl,hsc1,hsc2⟩:=hsr.cap;have HSR:=aa hsr;clear hsr htr;have hsl:=hz.Gf;have HZ:=aa hz;clear hz;have hl':(je v.Gf).length≤1000000:=hl;clear hl;have HUV:Hid (kY v=je v.Gf):=aa rfl;have HB:=aa (ae w (.cells #[.string v.name,.int .u64 v.id,.bool v.hidden,.bool v.ro,.slice tp v.tags.length tc,.slice sp v.Gf.length sc] 55));go_enter Tryz.func199,Tryz.ntmps199
 go_upto_region 3 with (fail)
 generalize hW1:World.alloc w _=W1 at *;clear hW1
 go_loopw [3,11] (fun l i wr=>∃ k:Nat,k≤v.Gf.length∧i=.int .i64 k∧dF wr w.heap.size l (je (v.Gf.take k))∧Below w.heap.size w wr) (fun _ i _=>v.Gf.length - (intOf i).toNat)
 case atStart=>exact ⟨0,Nat.zero_le _,rfl,dF.nil _ _,HB.out⟩
 case round =>
  clear HB;obtain ⟨k,hk,rfl,hown,hB⟩:=hrel;have HOW:=aa hown;clear hown;have HB:=aa hB;clear hB;have hwz:=HB.out.size;have hul0:(je (v.Gf.take k)).length≤1000000:=Nat.le_trans BX hl'
  by_cases hlt:k<v.Gf.length
  ·obtain ⟨s,hs⟩:=aj v.Gf k hlt
   obtain ⟨b,off,us,rfl,hob,hbw,hul,hvs,hcv⟩:=HSR.out.elem hs;have hsm:=List.mem_of_getElem? hs;have hal:=(HZ.out.seg s hsm).1;obtain ⟨av,stv,rfl,har,hst⟩:=hvs;obtain ⟨ap,ac,rfl,_,_⟩:=har.cap;obtain ⟨stp,stc,rfl,_,_⟩:=hst.cap;have HAR:=aa har;clear har hst;have hbk:wr.heap[b]?=w.heap[b]?:=HB.out.block b hbw;have q0:=bK hbk (hcv 0 _ rfl);have q1:=ai hbk (hcv 1 _ rfl);have q2:=ai hbk (hcv 2 _ rfl);have q3:=ai hbk (hcv 3 _ rfl);have q4:=ai hbk (hcv 4 _ rfl);have q5:=ai hbk (hcv 5 _ rfl);have q6:=ai hbk (hcv 6 _ rfl);have q7:=ai hbk (hcv 7 _ rfl);have q8:=ai hbk (hcv 8 _ rfl);have q9:=ai hbk (hcv 9 _ rfl);have q10:=ai hbk (hcv 10 _ rfl);have HSN:=aa (yT hs);clear hs hsm hcv hul hbk;have HBs:=aa (heap_alloc_new wr (.cells #[.int .i64 s.start,.int .i64 s.length,.int .i64 s.kind,.slice ap s.Ga.length ac,.int .i64 s.chunk,.slice stp s.stale.length stc,.string s.log,.string s.pool,.int .i64 s.device,.int .i64 s.mode,.int .i64 s.done] 79));have hA:=ae wr (.cells #[.int .i64 s.start,.int .i64 s.length,.int .i64 s.kind,.slice ap s.Ga.length ac,.int .i64 s.chunk,.slice stp s.stale.length stc,.string s.log,.string s.pool,.int .i64 s.device,.int .i64 s.mode,.int .i64 s.done] 79);have HB2:=aa (HB.out.trans (hA.mono hwz));have HOW2:=aa (HOW.out.below hA);clear hA
   go_upto_region 5 with (fail)
   clear q0 q1 q2 q3 q4 q5 q6 q7 q8 q9 q10;generalize hW2:World.alloc wr _=W2 at *;generalize hBs:wr.heap.size=Bs at *;clear hW2 HB HOW;have s3:W2.cell? ⟨Bs,3,none⟩=some (.slice ap s.Ga.length ac):=by simp [World.cell?,HBs.out]
   go_upto_region 6 with (fail)
   clear s3
   go_loopw [3,18] (fun l i wi=>∃ j:Nat,j≤s.Ga.length∧i=.int .i64 j∧dF wi w.heap.size l (je (v.Gf.take k)++vP (s.Ga.take j))∧wi.heap[Bs]?=some (.cells #[.int .i64 s.start,.int .i64 s.length,.int .i64 s.kind,.slice ap s.Ga.length ac,.int .i64 s.chunk,.slice stp s.stale.length stc,.string s.log,.string s.pool,.int .i64 s.device,.int .i64 s.mode,.int .i64 s.done] 79 (0,0))∧Below w.heap.size w wi) (fun _ i _=>s.Ga.length - (intOf i).toNat)
   case atStart=>exact ⟨0,Nat.zero_le _,rfl,by rw [List.take_zero];simpa [vP] using HOW2.out,HBs.out,HB2.out⟩
   case round =>
    clear HBs HB2 HOW2;obtain ⟨j,hj,rfl,hown,hbs,hB⟩:=hrel;have HOW:=aa hown;clear hown;have HB:=aa hB;clear hB;have HBs:=aa hbs;clear hbs;have hwz2:=HB.out.size;have hvl:=Df (s.Ga.take j);rw [List.length_take] at hvl
    by_cases hlt2:j<s.Ga.length
    ·obtain ⟨x,hx⟩:=aj s.Ga j hlt2
     obtain ⟨b2,off2,us2,hsp,hob2,hbw2,hul2,hvs2,hcv2⟩:=HAR.out.elem hx;subst hsp;obtain rfl:us2=_:=hvs2;have hbk2:wr.heap[b2]?=w.heap[b2]?:=HB.out.block b2 hbw2;have q0:=bK hbk2 (hcv2 0 _ rfl);have q1:=ai hbk2 (hcv2 1 _ rfl);have q2:=ai hbk2 (hcv2 2 _ rfl);have HVS:=aa (BA hx);clear hcv2 hul2 hx hbk2;have hbsl:=lt_of_block HBs.out;have hA:=ae wr (.cells #[.bool x.vol,.string x.on,.int .i64 x.start] 60);have HBa:=aa (heap_alloc_new wr (.cells #[.bool x.vol,.string x.on,.int .i64 x.start] 60));have HB2:=aa (HB.out.trans (hA.mono hwz2));have HOW2:=aa (HOW.out.below hA);have HBs2:=aa ((hA.block _ hbsl).trans HBs.out);clear hA
     go_upto_region 8 with (fail)
     clear q0 q1 q2;generalize hW3:World.alloc wr _=W3 at *;generalize hBa:wr.heap.size=Ba at *;clear hW3 HB HOW HBs;have a0:W3.cell? ⟨Ba,0,none⟩=some (.bool x.vol):=by simp [World.cell?,HBa.out]
     have a1:W3.cell? ⟨Ba,1,none⟩=some (.string x.on):=by simp [World.cell?,HBa.out]
     cases hxv:x.vol with
     | false =>
      rw [hxv] at a0 HVS;rw [if_neg (by simp),List.append_nil] at HVS;have HV:=aa hxv;clear hxv;go_wp2;go_roundw
      case rel=>exact ⟨j+1,by omega,by go_num,by rw [HVS.out];exact HOW2.out,HBs2.out,HB2.out⟩
      case measure=>simp [intOf];omega
     | true =>
      rw [hxv] at a0 HVS;rw [if_pos rfl] at HVS;have HV:=aa hxv;clear hxv;have hwz3:=HB2.out.size
      go_wp2_with (at_builtin;refine dz rfl _ _ rfl w.heap.size _ (je (v.Gf.take k)++vP (s.Ga.take j)) x.on rfl ?c1 W3.heap.size 1 rfl ?c2 ?c3 ?c4 ?_)
      case c1=>exact HOW2.out.alloc _
      case c2=>exact aD rfl rfl
      case c3=>rw [List.length_append];omega
      case c4=>simp;omega
      intro v' w1 hown1 hb1 hg1;have hA:=ae W3 (.cells #[.string x.on] 9);have hbs3:=(hA.block _ (lt_of_block HBs2.out)).trans HBs2.out;have HB4:=aa ((HB2.out.trans (hA.mono hwz3)).trans hb1);have HBs4:=aa ((hg1.block Bs (lt_of_block hbs3) (fun e=>(HOW2.out.below hA).ne hbs3 (by decide) e.symm)).trans hbs3);have HOW4:=aa hown1;clear hA hbs3 hb1 hg1 hown1;go_wp2;go_roundw
      case rel=>exact ⟨j+1,by omega,by go_num,by rw [HVS.out];exact HOW4.out,HBs4.out,HB4.out⟩
      case measure=>simp [intOf];omega
    ·obtain rfl:j=s.Ga.length:=by omega
     rw [List.take_length] at HOW hvl;generalize hAL:je (v.Gf.take k)++vP s.Ga=AL at *;have hALl:AL.length≤3000000:=by rw [← hAL,List.length_append];omega
     have HSN2:Hid (je (v.Gf.take (k+1))=AL++(if s.log.toList.isEmpty then [] else [s.log])++(if s.pool.toList.isEmpty then [] else [s.pool])):=aa (by rw [HSN.out,← hAL];rfl);clear hAL hvl HSN;have s6:wr.cell? ⟨Bs,6,none⟩=some (.string s.log):=by simp [World.cell?,HBs.out]
     have s7:wr.cell? ⟨Bs,7,none⟩=some (.string s.pool):=by simp [World.cell?,HBs.out]
     have hbsl:=lt_of_block HBs.out;cases hlog:s.log.toList.isEmpty with
     | true =>
      rw [hlog,if_pos rfl,List.append_nil] at HSN2;cases hpool:s.pool.toList.isEmpty with
      | true =>
       rw [hpool,if_pos rfl,List.append_nil] at HSN2;go_wp2;go_roundw
       case rel=>exact ⟨k+1,by omega,by go_num,by rw [HSN2.out];exact HOW.out,HB.out⟩
       case measure=>simp [intOf];omega
      | false =>
       rw [hpool,if_neg (by simp)] at HSN2
       go_wp2_with (at_builtin;refine dz rfl _ _ rfl w.heap.size _ AL s.pool rfl ?d1 wr.heap.size 1 rfl ?d2 ?d3 ?d4 ?_)
       case d1=>exact HOW.out.alloc _
       case d2=>exact aD rfl rfl
       case d3=>omega
       case d4=>simp;omega
       intro v' w1 hown1 hb1 hg1;have HB4:=aa ((HB.out.alloc hwz2 _).trans hb1);have HOW4:=aa hown1;clear hb1 hg1 hown1;go_wp2;go_roundw
       case rel=>exact ⟨k+1,by omega,by go_num,by rw [HSN2.out];exact HOW4.out,HB4.out⟩
       case measure=>simp [intOf];omega
     | false =>
      rw [hlog,if_neg (by simp)] at HSN2
      go_wp2_with (at_builtin;refine dz rfl _ _ rfl w.heap.size _ AL s.log rfl ?e1 wr.heap.size 1 rfl ?e2 ?e3 ?e4 ?_)
      case e1=>exact HOW.out.alloc _
      case e2=>exact aD rfl rfl
      case e3=>omega
      case e4=>simp;omega
      intro v' w1 hown1 hb1 hg1;have hA:=ae wr (.cells #[.string s.log] 9);have hbs3:=(hA.block _ hbsl).trans HBs.out;have HB4:=aa ((HB.out.trans (hA.mono hwz2)).trans hb1);have HBs4:=aa ((hg1.block Bs (lt_of_block hbs3) (fun e=>(HOW.out.below hA).ne hbs3 (by decide) e.symm)).trans hbs3);have HOW4:=aa hown1;have hwz4:=HB4.out.size;clear hA hbs3 hb1 hg1 hown1 s6 s7;have s7:w1.cell? ⟨Bs,7,none⟩=some (.string s.pool):=by simp [World.cell?,HBs4.out]
      cases hpool:s.pool.toList.isEmpty with
      | true =>
       rw [hpool,if_pos rfl,List.append_nil] at HSN2;go_wp2;go_roundw
       case rel=>exact ⟨k+1,by omega,by go_num,by rw [HSN2.out];exact HOW4.out,HB4.out⟩
       case measure=>simp [intOf];omega
      | false =>
       rw [hpool,if_neg (by simp)] at HSN2
       go_wp2_with (at_builtin;refine dz rfl _ _ rfl w.heap.size _ (AL++[s.log]) s.pool rfl ?f1 w1.heap.size 1 rfl ?f2 ?f3 ?f4 ?_)
       case f1=>exact HOW4.out.alloc _
       case f2=>exact aD rfl rfl
       case f3=>simp;omega
       case f4=>simp;omega
       intro v2 w2 hown2 hb2 hg2;have HB5:=aa ((HB4.out.alloc hwz4 _).trans hb2);have HOW5:=aa hown2;clear hb2 hg2 hown2;go_wp2;go_roundw
       case rel=>exact ⟨k+1,by omega,by go_num,by rw [HSN2.out,List.append_assoc];exact HOW5.out,HB5.out⟩
       case measure=>simp [intOf];omega
  ·obtain rfl:k=v.Gf.length:=by omega
   rw [List.take_length] at HOW;go_wp2;go_ret;exact ⟨_,rfl,by rw [HUV.out];exact HOW.out,HB.out⟩
def rO (A:List (ay × Value)):Value→Option Value
 | .string s=>(A.find? fun p=>decide (p.1.name=s)).map (·.2)
 | _=>none
theorem zJ (A:List (ay × Value))(v:ay)(x:Value)(h:A.find? (fun p=>decide (p.1.name=v.name))=none)(key:Value):rO (A++[(v,x)]) key=upd (rO A) (.string v.name) x key:=by
 by_cases hk:key=.string v.name
 ·subst hk
  rw [upd_same];show ((A++[(v,x)]).find? fun p=>decide (p.1.name=v.name)).map _=_;rw [List.find?_append,h];simp
 ·rw [bP hk]
  unfold rO;split
  ·rename_i s
   have:¬ v.name=s:=fun e=>hk (by rw [e]);rw [List.find?_append];simp [this]
  ·rfl
structure gQ (B:Nat)(w:World)(bm:Nat)(F9:List ay)(A:List (ay × Value)):Prop where
 map:bi Tryz.prog 9 w bm A.length (rO A)
 fd:∀ nm,(A.find? fun p=>decide (p.1.name=nm)).map (·.1)=aM F9 nm
 rd:∀ p∈A,RdS aF 1 (fun b=>B≤b) w [p.2] (kY p.1)
 le:A.length≤F9.length
theorem gQ.below {B:Nat}{w w':World}{bm:Nat}{F9:List ay}{A:List (ay × Value)}(h:gQ B w bm F9 A)(hb:Below w.heap.size w w'):gQ B w' bm F9 A :=
 ⟨h.map.block (hb.block _ h.map.lt),h.fd,fun p hp=>(RdS.moves aF.moves).mv (Mv.of hb) (h.rd p hp),h.le⟩
theorem FM (w:World):(zeroValue 26).run Tryz.prog w=.ok (.slice none 0 0) w:=by kernel_rfl
theorem gQ.look {B:Nat}{w:World}{bm:Nat}{F9:List ay}{A:List (ay × Value)}(h:gQ B w bm F9 A)(nm:ByteArray)(hn:nm.size≤maxLen) :
  ∃ (p:Option Addr) (c:Nat),(Instr.lookup 205 (.map (some bm)) (.string nm) true).run Tryz.prog w=.ok (.tuple #[.slice p ((dU F9 nm).getD []).length c,.bool (aM F9 nm).isSome]) w ∧
   (Instr.lookup 205 (.map (some bm)) (.string nm) false).run Tryz.prog w=.ok (.slice p ((dU F9 nm).getD []).length c) w∧RdS aF 1 (fun b=>B≤b) w [.slice p ((dU F9 nm).getD []).length c] ((dU F9 nm).getD []):=by
 have hlk:=bi.look h.map oM Tryz.underlying205 (FM w) (key:=.string nm) (gG nm hn);have hf:=h.fd nm;have e0:rO A (.string nm)=(A.find? fun p=>decide (p.1.name=nm)).map (·.2):=rfl;cases ha:A.find? (fun p=>decide (p.1.name=nm)) with
 | none =>
  rw [ha] at hf e0;have hf':aM F9 nm=none:=hf.symm;have hl:(dU F9 nm).getD []=[]:=by unfold dU;rw [hf'];rfl
  rw [e0] at hlk;rw [hl,hf'];exact ⟨none,0,hlk.2,hlk.1,RdS.nil⟩
 | some p =>
  rw [ha] at hf e0;have hf':aM F9 nm=some p.1:=hf.symm;have hl:(dU F9 nm).getD []=kY p.1:=by unfold dU;rw [hf'];rfl
  rw [e0] at hlk;have hr:=h.rd p (List.mem_of_find?_eq_some ha);obtain ⟨q,c,e,_,_⟩:=hr.cap;rw [hl,hf'];refine ⟨q,c,?_⟩;rw [← e];exact ⟨hlk.2,hlk.1,hr⟩
theorem qh {F9:List ay}{k:Nat}{v:ay}(h:F9[k]?=some v)(nm:ByteArray):aM (F9.take (k+1)) nm=(aM (F9.take k) nm).or (if v.name=nm then some v else none):=by
 unfold aM;rw [take_snoc' F9 k v h,List.find?_append]
 congr 1
 by_cases e:v.name=nm <;> simp [e]
theorem gQ.skip {B:Nat}{w:World}{bm k:Nat}{F9:List ay}{A:List (ay × Value)}{v:ay}(h:gQ B w bm (F9.take k) A)(hv:F9[k]?=some v)(hs:(aM (F9.take k) v.name).isSome=true):gQ B w bm (F9.take (k+1)) A :=
 ⟨h.map,fun nm=>by
  rw [h.fd nm,qh hv nm]
  by_cases e:v.name=nm
  ·subst e
   obtain ⟨x,hx⟩:=Option.isSome_iff_exists.1 hs;rw [hx];rfl
  ·rw [if_neg e]
   simp,h.rd,Nat.le_trans h.le (by rw [List.length_take,List.length_take];omega)⟩
theorem gQ.snoc {B:Nat}{w w':World}{bm k:Nat}{F9:List ay}{A:List (ay × Value)}{v:ay}{x:Value}(h:gQ B w bm (F9.take k) A)(hv:F9[k]?=some v)(hs:(aM (F9.take k) v.name).isSome=false)(hr:RdS aF 1 (fun b=>B≤b) w [x] (kY v))
  (hm:bi Tryz.prog 9 w' bm (A.length+1) (upd (rO A) (.string v.name) x)) (hg:w.grownBy w' (some bm)):gQ B w' bm (F9.take (k+1)) (A++[(v,x)]):=by
 have hnone:A.find? (fun p=>decide (p.1.name=v.name))=none:=by
  have:=h.fd v.name;cases ha:A.find? (fun p=>decide (p.1.name=v.name)) with
  | none=>rfl
  | some p=>rw [ha] at this;rw [← this] at hs;cases hs
 have hbm:∀ (b:Nat) (cs:Array Value) (t:TypeId) (z:Nat × Nat),w.heap[b]?=some (.cells cs t z)→w'.heap[b]?=w.heap[b]?:=fun b cs t z hb=>oJ hg (lt_of_block hb) (fun e=>h.map.ne (e ▸ hb) rfl)
 have hmv:∀ {y:Value} {l:List ByteArray},RdS aF 1 (fun b=>B≤b) w [y] l→RdS aF 1 (fun b=>B≤b) w' [y] l:=fun {y l} hy=>by
  obtain ⟨p,c,e,h1,h2,h3⟩:=hy;refine ⟨p,c,e,h1,h2,fun h0=>?_⟩;obtain ⟨b,off,e2,hlt,hok,hc⟩:=h3 h0
  have hbc:w'.heap[b]?=w.heap[b]?:=by
   obtain ⟨x0,hx0⟩:=aj l 0 h0;obtain ⟨us,hul,hvs,hcv⟩:=hc 0 x0 hx0;obtain rfl:us=_:=hvs;have:=hcv 0 _ rfl;unfold World.cell? at this;cases hb:w.heap[b]? with
   | none=>rw [hb] at this;simp at this
   | some o =>
    cases o with
    | cells cs t z=>exact (hbm b cs t z hb).trans hb
    | map es c=>rw [hb] at this;simp at this
    | _=>rw [hb] at this;simp at this
  exact ⟨b,off,e2,Nat.lt_of_lt_of_le hlt hg.size,hok,fun i x hx=>by
   obtain ⟨us,hul,hvs,hcv⟩:=hc i x hx
   exact ⟨us,hul,hvs,fun j z hz=>(World.cell?_of_block (a:=⟨b,_,none⟩) hbc).trans (hcv j z hz)⟩⟩
 refine ⟨?_,fun nm=>?_,fun p hp=>?_,?_⟩
 ·rw [List.length_append]
  exact hm.congr fun key _ _=>zJ A v x hnone key
 ·rw [List.find?_append,qh hv nm,← h.fd nm]
  cases A.find? (fun p=>decide (p.1.name=nm)) with
  | none=>by_cases e:v.name=nm <;> simp [e]
  | some p=>simp
 ·rcases List.mem_append.1 hp with hp | hp
  ·exact hmv (h.rd p hp)
  ·obtain rfl:=List.mem_singleton.1 hp
   exact hmv hr
 ·have:=h.le
  have:=(List.getElem?_eq_some_iff.1 hv).1;rw [List.length_append,List.length_take] at *;simp only [List.length_cons,List.length_nil];omega
structure uw (g:af):Prop where
 sz:GSz g
 vn:∀ v∈g.F9,v.name.size≤maxLen
 ul:∀ v∈g.F9,(kY v).length≤1000
 un:∀ v∈g.F9,∀ x∈kY v,x.size≤maxLen
 vl:g.F9.length≤1000
def Fs (B:Nat)(F9:List ay)(w:World)(e:Ending)(w':World):Prop:=∃ bm A,e=.returned (.map (some bm))∧gQ B w' bm F9 A∧Below w.heap.size w w'∧w.heap.size≤bm
attribute [local go_sem] run_makeMap_plain
theorem AU {ok:Nat→Prop}(g:af)(a:bN)(w:World)(hr:RdS aN 6 ok w [.slice a.vp g.F9.length a.vc] g.F9)(hu:uw g) :
  Calls Tryz.prog 160 #[.agg #[.string g.name,.int .u64 g.id,.int .i64 g.seq,.int .i64 g.Gd,.int .i64 g.next,.slice a.tp g.tags.length a.tc,.slice a.dp g.Gb.length a.dc,.slice a.vp g.F9.length a.vc,.slice a.hp g.history.length a.hc]] w (Fs w.heap.size g.F9 w):=by
 have HG:=aa hr;have HU:=aa hu;have hvl:=hu.vl;obtain ⟨vp,vc,hvpc,hvc1,hvc2⟩:=hr.cap;clear hr hu;injection hvpc with e1 e2 e3
 obtain ⟨gtp,gtc,gdp,gdc,gvp,gvc,ghp,ghc⟩:=a;dsimp only at e1 e2 e3;subst e1;subst e3;clear e2;have hA1:=ae w (.cells #[.string g.name,.int .u64 g.id,.int .i64 g.seq,.int .i64 g.Gd,.int .i64 g.next,.slice gtp g.tags.length gtc,.slice gdp g.Gb.length gdc,.slice gvp g.F9.length gvc,.slice ghp g.history.length ghc] 31);have hA2:=ae (w.alloc (.cells #[.string g.name,.int .u64 g.id,.int .i64 g.seq,.int .i64 g.Gd,.int .i64 g.next,.slice gtp g.tags.length gtc,.slice gdp g.Gb.length gdc,.slice gvp g.F9.length gvc,.slice ghp g.history.length ghc] 31)) (.map #[] 0);have hN1:=heap_alloc_new w (.cells #[.string g.name,.int .u64 g.id,.int .i64 g.seq,.int .i64 g.Gd,.int .i64 g.next,.slice gtp g.tags.length gtc,.slice gdp g.Gb.length gdc,.slice gvp g.F9.length gvc,.slice ghp g.history.length ghc] 31);have hm1:=bi.made Tryz.prog 9 (w.alloc (.cells #[.string g.name,.int .u64 g.id,.int .i64 g.seq,.int .i64 g.Gd,.int .i64 g.next,.slice gtp g.tags.length gtc,.slice gdp g.Gb.length gdc,.slice gvp g.F9.length gvc,.slice ghp g.history.length ghc] 31));rw [World.size_alloc] at hm1;have HN1:=aa ((hA2.block _ (lt_of_block hN1)).trans hN1);clear hN1;have HM1:=aa hm1;clear hm1;have HB1:=aa (hA1.trans (hA2.mono hA1.size));clear hA1 hA2;go_enter Tryz.func160,Tryz.ntmps160
 go_upto_region 2 with (fail)
 generalize hW1:World.alloc (World.alloc w _) _=W1 at *;clear hW1;have g7:W1.cell? ⟨w.heap.size,7,none⟩=some (.slice gvp g.F9.length gvc):=by simp [World.cell?,HN1.out]
 have HLK:=aa (show gQ w.heap.size W1 (w.heap.size+1) (g.F9.take 0) [] from ⟨HM1.out.congr (fun key _ _=>by unfold rO;split <;> rfl),fun nm=>by simp [aM],fun p hp=>absurd hp (by simp),by simp⟩);clear HM1 HN1
 go_upto_region 3 with (fail)
 clear g7
 go_loopw [12] (fun i wr=>∃ k:Nat,k≤g.F9.length∧i=.int .i64 k∧Below w.heap.size w wr∧∃ A,gQ w.heap.size wr (w.heap.size+1) (g.F9.take k) A) (fun i _=>g.F9.length - (intOf i).toNat)
 case atStart=>exact ⟨0,Nat.zero_le _,rfl,HB1.out,_,HLK.out⟩
 case round =>
  clear HB1 HLK;obtain ⟨k,hk,rfl,hB,A,hlk⟩:=hrel;have HB:=aa hB;clear hB;have HLK:=aa hlk;clear hlk
  by_cases hlt:k<g.F9.length
  ·obtain ⟨v,hv⟩:=aj g.F9 k hlt
   obtain ⟨b,off,us,rfl,hob,hbw,hul,hvs,hcv⟩:=HG.out.elem hv;have hvm:=List.mem_of_getElem? hv;have hns:=HU.out.vn v hvm;have HVU:=aa (HU.out.ul v hvm);have HVZ:=aa (HU.out.sz.vz v hvm);have HVS:=aa hvs;obtain ⟨tv,sv,rfl,htr,hsr⟩:=hvs;obtain ⟨tp,tc,rfl,_,_⟩:=htr.cap;obtain ⟨sp,sc,rfl,_,_⟩:=hsr.cap;have hbk:wr.heap[b]?=w.heap[b]?:=HB.out.block b hbw;have q0:=bK hbk (hcv 0 _ rfl);have q1:=ai hbk (hcv 1 _ rfl);have q2:=ai hbk (hcv 2 _ rfl);have q3:=ai hbk (hcv 3 _ rfl);have q4:=ai hbk (hcv 4 _ rfl);have q5:=ai hbk (hcv 5 _ rfl);have HV:=aa hv;clear hcv hul hbk htr hsr hvm hv;have hA:=ae wr (.cells #[.string v.name,.int .u64 v.id,.bool v.hidden,.bool v.ro,.slice tp v.tags.length tc,.slice sp v.Gf.length sc] 55);have HBv:=aa (heap_alloc_new wr (.cells #[.string v.name,.int .u64 v.id,.bool v.hidden,.bool v.ro,.slice tp v.tags.length tc,.slice sp v.Gf.length sc] 55));have HB2:=aa (HB.out.trans (hA.mono HB.out.size));have HLK2:=aa (HLK.out.below hA);clear hA
   go_upto_region 5 with (fail)
   clear q0 q1 q2 q3 q4 q5;generalize hW2:World.alloc wr _=W2 at *;generalize hBv:wr.heap.size=Bv at *;clear hW2 HB HLK;have v0:W2.cell? ⟨Bv,0,none⟩=some (.string v.name):=by simp [World.cell?,HBv.out]
   obtain ⟨lp,lc,hl1,-,-⟩:=HLK2.out.look v.name hns;cases hfs:(aM (g.F9.take k) v.name).isSome with
   | true =>
    rw [hfs] at hl1;have HSK:=aa (HLK2.out.skip HV.out hfs);have HFS:=aa hfs;clear hfs;go_wp2;go_roundw
    case rel=>exact ⟨k+1,by omega,by go_num,HB2.out,_,HSK.out⟩
    case measure=>simp [intOf];omega
   | false =>
    rw [hfs] at hl1;have HFS:=aa hfs;clear hfs
    go_upto_region 7 with (fail)
    clear hl1 v0
    have hS:∀ w':World,Below W2.heap.size W2 w'→(w'.cell? ⟨Bv,0,none⟩=some (.string v.name)∧w'.cell? ⟨Bv,1,none⟩=some (.int .u64 v.id)∧w'.cell? ⟨Bv,2,none⟩=some (.bool v.hidden)∧w'.cell? ⟨Bv,3,none⟩=some (.bool v.ro)∧w'.cell? ⟨Bv,4,none⟩=some (.slice tp v.tags.length tc)∧w'.cell? ⟨Bv,5,none⟩=some (.slice sp v.Gf.length sc)):=fun w' e=>by
     have h2:=(e.block Bv (lt_of_block HBv.out)).trans HBv.out;exact ⟨by simp [World.cell?,h2],by simp [World.cell?,h2],by simp [World.cell?,h2],by simp [World.cell?,h2],by simp [World.cell?,h2],by simp [World.cell?,h2]⟩
    have HS:=aa hS;clear hS;refine aL (fun w'=>w'.cell? ⟨Bv,0,none⟩=some (.string v.name)∧w'.cell? ⟨Bv,1,none⟩=some (.int .u64 v.id)∧w'.cell? ⟨Bv,2,none⟩=some (.bool v.hidden)∧w'.cell? ⟨Bv,3,none⟩=some (.bool v.ro)∧w'.cell? ⟨Bv,4,none⟩=some (.slice tp v.tags.length tc)∧w'.cell? ⟨Bv,5,none⟩=some (.slice sp v.Gf.length sc)) 5 [] (by kernel_rfl) (HS.out _ (Below.refl W2.heap.size W2).drew) (fun hHeld=>?_);refine tkF 0 hHeld ?_;try simp only [ak];refine tkF 1 hHeld ?_;try simp only [ak];refine tkF 2 hHeld ?_;try simp only [ak];refine tkF 3 hHeld ?_;try simp only [ak];refine au (i:=4) rfl rfl (by kernel_rfl) (fun K hK=>?_);go_simp;refine (BH (ok:=ok) v _ _ (aN.moves.mv (Mv.of (HB2.out.trans ((Below.refl W2.heap.size W2).drew.mono HB2.out.size))) HVS.out) HVZ.out (by have:=HVU.out;omega)).mono ?_;rintro e w3 ⟨uv,rfl,how,hb3⟩;have HB3:Hid (Below W2.heap.size W2 w3):=aa ⟨hb3.os,hb3.tape,hb3.output,hb3.size,hb3.block⟩;have HUR:Hid (RdS aF 1 (fun b=>w.heap.size≤b) w3 [uv] (kY v)):=aa (how.rd fun b e=>Nat.le_trans HB2.out.size (World.ownsRow.lt how b e).1);clear how hb3;refine hK.out _ _ (HS.out _ HB3.out) ?_;clear hK K hHeld HS;refine aP (by kernel_rfl) rfl ?_;simp only [List.drop_succ_cons,List.drop_zero];have hlen:A.length≤1000:=by have:=HLK2.out.le;rw [List.length_take] at this;omega
    obtain ⟨w',hst,hm',hg',hz'⟩:=bi.store (HLK2.out.below HB3.out).map oM Tryz.underlying205 (Nat.lt_of_le_of_lt hlen (by decide)) (gG v.name hns) uv;have HSN:=aa ((HLK2.out.below HB3.out).snoc HV.out HFS.out HUR.out hm' hg');have HB4:Hid (Below w.heap.size w w'):=aa ((HB2.out.trans (HB3.out.mono HB2.out.size)).trans ((Mod.grown hg').below (B:=w.heap.size) (Nat.le_trans HB2.out.size HB3.out.size) (fun q e=>by omega)));clear hm' hg' hz';go_wp2;go_roundw
    case rel=>exact ⟨k+1,by omega,by go_num,HB4.out,_,HSN.out⟩
    case measure=>simp [intOf];omega
  ·obtain rfl:k=g.F9.length:=by omega
   rw [List.take_length] at HLK;go_wp2;go_ret;exact ⟨_,_,rfl,HLK.out,HB.out,by omega⟩
end Go.Proofs.YtjdfihglehfelaaGreatDoor
