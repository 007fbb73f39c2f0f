/- Lemmas: ModA, Box, MkT. -/
import Derived.Test.YtjdfihglehfelaaGreatDoorPk11
set_option maxRecDepth 100000
set_option maxHeartbeats 32000000
set_option linter.all false
namespace Go.Proofs.YtjdfihglehfelaaGreatDoor
open Go.RowKit Go.Maps
theorem kU {ok:Nat→Prop}(v:ay)(u:List Value)(w:World)(hv:aN ok w u v)(hl:v.Gf.length≤1000000000) :
  Calls Tryz.prog 146 #[.agg u.toArray] w fun e w'=>e=.returned (.int .i64 (eZ v))∧Below w.heap.size w w':=by
 obtain ⟨tv,sv,rfl,htr,hsr⟩:=hv;obtain ⟨tp,tc,rfl,_,_⟩:=htr.cap;obtain ⟨sp,sc,rfl,hsc1,hsc2⟩:=hsr.cap;have HS:=aa hsr;clear hsr;have HB:=aa (ae w (.cells #[.string v.name,.int .u64 v.id,.bool v.hidden,.bool v.ro,.slice tp v.tags.length tc,.slice sp v.Gf.length sc] 55))
 by_cases h1:v.Gf.length=1
 ·obtain ⟨s,hs⟩:=aj v.Gf 0 (by omega)
  have hk:eZ v=s.kind:=by
   unfold eZ
   match hvs:v.Gf,h1,hs with
   | [x],_,hs =>
    obtain rfl:x=s:=by simpa using hs
    rfl
  obtain ⟨b,off,us,rfl,_,hbw,hul,hvs,hcv⟩:=HS.out.elem hs;obtain ⟨a,st,rfl,_,_⟩:=hvs;have c2:=(HB.out.cell (p:=⟨b,off+0*11+2,none⟩) hbw).trans (hcv 2 _ rfl);rw [Nat.zero_mul,Nat.add_zero] at c2;clear hcv hul hs;rw [hk];clear hk;have hq:((v.Gf.length:Int) == 1)=true:=by rw [h1];rfl
  have h2:0<v.Gf.length:=by omega
  have H1:=aa h1;clear h1;go_enter Tryz.func146,Tryz.ntmps146;go_wp2;go_ret;exact ⟨rfl,HB.out⟩
 ·have hk:eZ v=0:=by
   unfold eZ
   match hvs:v.Gf with
   | [x]=>rw [hvs] at h1;exact absurd rfl h1
   | []=>rfl
   | _ :: _ :: _=>rfl
  rw [hk];clear hk;have hq:((v.Gf.length:Int) == 1)=false:=by simp;omega
  go_enter Tryz.func146,Tryz.ntmps146;go_wp2;go_ret;exact ⟨rfl,HB.out⟩
theorem CV (n d:Int)(w:World)(h0:0≤n)(h1:n≤1000000000000)(h2:1≤d)(h3:d≤1000000) :
  Calls Tryz.prog 151 #[.int .i64 n,.int .i64 d] w fun e w'=>e=.returned (.int .i64 ((n+d - 1) / d))∧w=w':=by
 have hq0:0≤(n+d - 1) / d:=Int.ediv_nonneg (by omega) (by omega);have hq1:(n+d - 1) / d≤n+d - 1:=Int.ediv_le_self _ (by omega);go_enter Tryz.func151,Tryz.ntmps151;go_wp2;go_ret;exact ⟨rfl,rfl⟩
def pV (a b:ByteArray)(e:Int):Bool:=e == 0&&a.toList == b.toList
theorem mJ (a b:ByteArray)(k:Int)(w:World) :
  Calls Tryz.prog 192 #[.string a,.string b,.int .i64 k] w fun e w'=>e=.returned (.bool (pV a b k))∧w=w':=by
 go_enter Tryz.func192,Tryz.ntmps192
 by_cases h:k=0
 ·subst h
  go_wp2;go_ret;exact ⟨ah (by simp [pV]),rfl⟩
 ·have h1:(k == 0)=false:=by simpa using h
  go_wp2;go_ret;exact ⟨ah (by simp [pV,h1]),rfl⟩
theorem di (n lo hi:Int)(used:Bool)(w:World) :
  Calls Tryz.prog 188 #[.int .i64 n,.int .i64 lo,.int .i64 hi,.bool used] w fun e w'=>e=.returned (.bool (bE n lo hi used))∧w=w':=by
 go_enter Tryz.func188,Tryz.ntmps188;cases used with
 | true =>
  by_cases h1:lo≤n
  ·by_cases h2:n≤hi
   ·go_wp2
    go_ret;exact ⟨ah (by simp [bE,h1,h2]),rfl⟩
   ·go_wp2
    go_ret;exact ⟨ah (by simp [bE,h2]),rfl⟩
  ·go_wp2
   go_ret;exact ⟨ah (by rw [bE,if_pos rfl,decide_eq_false (by omega:¬ lo≤n)];rfl),rfl⟩
 | false =>
  go_wp2
  all_goals
   go_ret;exact ⟨ah (by simp [bE]),rfl⟩
theorem Be {α β:Type}(f:β→α→β)(b:β)(l:List α)(k:Nat)(x:α)(h:l[k]?=some x):(l.take (k+1)).foldl f b=f ((l.take k).foldl f b) x:=by
 rw [take_snoc' l k x h,List.foldl_append];rfl
theorem lT (n l:Int)(h0:0≤n):0≤fF n l∧fF n l≤1073741824:=by unfold fF;omega
theorem uZ:∀ (l:List aB) (n:Int),0≤n→n≤1073741824→0≤l.foldl (fun n s=>fF n s.length) n∧l.foldl (fun n s=>fF n s.length) n≤1073741824
 | [],n,h0,h1=>⟨h0,h1⟩
 | s :: l,n,h0,_=>uZ l _ (lT n s.length h0).1 (lT n s.length h0).2
theorem yz {ok:Nat→Prop}(v:ay)(u:List Value)(w:World)(hv:aN ok w u v)(hl:v.Gf.length≤1000000000) :
  Calls Tryz.prog 149 #[.agg u.toArray] w fun e w'=>e=.returned (.int .i64 (C8 v))∧Below w.heap.size w w':=by
 obtain ⟨tv,sv,rfl,htr,hsr⟩:=hv;obtain ⟨tp,tc,rfl,_,_⟩:=htr.cap;obtain ⟨sp,sc,rfl,hsc1,hsc2⟩:=hsr.cap;have HS:=aa hsr;clear hsr;have HB:=aa (ae w (.cells #[.string v.name,.int .u64 v.id,.bool v.hidden,.bool v.ro,.slice tp v.tags.length tc,.slice sp v.Gf.length sc] 55));go_enter Tryz.func149,Tryz.ntmps149;go_wp2
 go_loopw [3,9] (fun n i wr=>∃ k:Nat,k≤v.Gf.length∧i=.int .i64 k∧n=.int .i64 ((v.Gf.take k).foldl (fun n s=>fF n s.length) 0)∧Below w.heap.size w wr) (fun _ i _=>v.Gf.length - (intOf i).toNat)
 case atStart=>exact ⟨0,Nat.zero_le _,rfl,rfl,HB.out⟩
 case round =>
  obtain ⟨k,hk,rfl,rfl,hB⟩:=hrel;have hbd:=uZ (v.Gf.take k) 0 (by omega) (by omega)
  by_cases hlt:k<v.Gf.length
  ·obtain ⟨s,hs⟩:=aj v.Gf k hlt
   obtain ⟨b,off,us,rfl,_,hbw,hul,hvs,hcv⟩:=HS.out.elem hs;obtain ⟨a,st,rfl,har,hst⟩:=hvs;obtain ⟨ap,ac,rfl,_,_⟩:=har.cap;obtain ⟨stp,stc,rfl,_,_⟩:=hst.cap;have hbk:wr.heap[b]?=w.heap[b]?:=hB.block b hbw;have q0:=bK hbk (hcv 0 _ rfl);have q1:=ai hbk (hcv 1 _ rfl);have q2:=ai hbk (hcv 2 _ rfl);have q3:=ai hbk (hcv 3 _ rfl);have q4:=ai hbk (hcv 4 _ rfl);have q5:=ai hbk (hcv 5 _ rfl);have q6:=ai hbk (hcv 6 _ rfl);have q7:=ai hbk (hcv 7 _ rfl);have q8:=ai hbk (hcv 8 _ rfl);have q9:=ai hbk (hcv 9 _ rfl);have q10:=ai hbk (hcv 10 _ rfl);have HF:=aa (Be (fun n s=>fF n (aB.length s)) 0 v.Gf k s hs);generalize (v.Gf.take k).foldl (fun n s=>fF n (aB.length s)) 0=m at *;clear hcv hul hs hbk har hst;go_wp2;go_roundw
   case rel=>exact ⟨k+1,by omega,by go_num,by rw [HF.out];rfl,hB.alloc hB.size _⟩
   case measure=>simp [intOf];omega
  ·obtain rfl:k=v.Gf.length:=by omega
   go_wp2;go_ret;exact ⟨bB (by rw [List.take_of_length_le (Nat.le_refl _)];rfl),hB⟩
theorem zw (l:List aR)(k:Nat)(x:aR)(h:l[k]?=some x):((l.take (k+1)).filter (·.vol)).map (·.on)=((l.take k).filter (·.vol)).map (·.on)++if x.vol then [x.on] else []:=by
 rw [take_snoc' l k x h,List.filter_append,List.map_append];cases hx:x.vol <;> simp [List.filter_cons,hx]
def Dx (B:Nat)(w:World)(l:List ByteArray)(e:Ending)(w':World):Prop:=∃ v,e=.returned v∧dF w' B v l∧Below w.heap.size w w'
theorem kN {ok:Nat→Prop}(s:aB)(pool:Bool)(u:List Value)(w:World)(hv:bC ok w u s)(hl:s.Ga.length≤1000000) :
  Calls Tryz.prog 147 #[.agg u.toArray,.bool pool] w (Dx w.heap.size w (dD s pool)):=by
 obtain ⟨av,stv,rfl,har,hst⟩:=hv;obtain ⟨ap,ac,rfl,hac1,hac2⟩:=har.cap;obtain ⟨stp,stc,rfl,_,_⟩:=hst.cap;have HA:=aa har;clear har hst;have HU:Hid (dD s pool=_):=aa (dD.eq_1 s pool);go_enter Tryz.func147,Tryz.ntmps147;go_wp2
 go_loopw [5,11] (fun l i wr=>∃ k:Nat,k≤s.Ga.length∧i=.int .i64 k∧dF wr (w.heap.size+1) l (((s.Ga.take k).filter (·.vol)).map (·.on))∧wr.heap[w.heap.size]?=some (.cells #[.int .i64 s.start,.int .i64 s.length,.int .i64 s.kind,.slice ap s.Ga.length ac,.int .i64 s.chunk,.slice stp s.stale.length stc,.string s.log,.string s.pool,.int .i64 s.device,.int .i64 s.mode,.int .i64 s.done] 79 (0,0))∧Below w.heap.size w wr) (fun _ i _=>s.Ga.length - (intOf i).toNat)
 case atStart=>exact ⟨0,Nat.zero_le _,rfl,dF.nil _ _,heap_alloc_new w _,ae w _⟩
 case round =>
  obtain ⟨k,hk,rfl,hown,hbx,hB⟩:=hrel;have hwr:w.heap.size<wr.heap.size:=lt_of_block hbx
  by_cases hlt:k<s.Ga.length
  ·obtain ⟨x,hx⟩:=aj s.Ga k hlt
   obtain ⟨b,off,us,rfl,_,hbw,hul,hvs,hcv⟩:=HA.out.elem hx;obtain rfl:us=_:=hvs;have hbk:wr.heap[b]?=w.heap[b]?:=hB.block b hbw;have q0:=bK hbk (hcv 0 _ rfl);have q1:=ai hbk (hcv 1 _ rfl);have q2:=ai hbk (hcv 2 _ rfl);have HN:=aa (zw s.Ga k x hx)
   have hal:(((s.Ga.take k).filter (·.vol)).map (·.on)).length≤1000000:=by
    rw [List.length_map];exact Nat.le_trans (List.length_filter_le _ _) (by rw [List.length_take];omega)
   generalize ((s.Ga.take k).filter (·.vol)).map (·.on)=al at *;have HBX:=aa hbx;clear hbx;clear hcv hul hx hbk;cases hxv:x.vol with
   | false =>
    rw [hxv] at q0;go_wp2;go_roundw
    case rel=>exact ⟨k+1,by omega,by go_num,by rw [HN.out,hxv];simp only [Bool.false_eq_true,if_false,List.append_nil];exact hown.alloc _,(Below.heap_alloc _ _ _ hwr).trans HBX.out,hB.alloc hB.size _⟩
    case measure=>simp [intOf];omega
   | true =>
    rw [hxv] at q0;have hBa:=((ae wr (.cells #[.bool true,.string x.on,.int .i64 x.start] 60)));have HOW:=aa hown;clear hown
    go_wp2_with (at_builtin;refine dz rfl _ _ rfl (w.heap.size+1) _ al x.on rfl ?c1 (wr.heap.size+1) 1 rfl ?c2 (by omega) ?c3 ?_)
    case c1=>exact (HOW.out.alloc _).alloc _
    case c2=>exact aD (by simp) rfl
    case c3=>simp;omega
    intro v' w1 hown1 hb1 hg1;have hB1:Below w.heap.size w w1:=((hB.alloc hB.size _).alloc (by simp;omega) _).trans (hb1.mono (by omega));have HBX1:=aa ((hb1.block w.heap.size (by omega)).trans ((Below.heap_alloc _ _ _ (by simp;omega)).trans ((Below.heap_alloc _ _ _ hwr).trans HBX.out)));clear hb1 hg1;go_wp2;go_roundw
    case rel=>exact ⟨k+1,by omega,by go_num,by rw [HN.out,hxv];exact hown1,HBX1.out,hB1⟩
    case measure=>simp [intOf];omega
  ·obtain rfl:k=s.Ga.length:=by omega
   rw [List.take_of_length_le (Nat.le_refl _)] at hown
   have hal:((s.Ga.filter (·.vol)).map (·.on)).length≤1000000:=by
    rw [List.length_map];exact Nat.le_trans (List.length_filter_le _ _) hl
   generalize (s.Ga.filter (·.vol)).map (·.on)=al at *;have y2:wr.cell? ⟨w.heap.size,2,none⟩=some (.int .i64 s.kind):=by simp [World.cell?,hbx]
   have y6:wr.cell? ⟨w.heap.size,6,none⟩=some (.string s.log):=by simp [World.cell?,hbx]
   have y7:wr.cell? ⟨w.heap.size,7,none⟩=some (.string s.pool):=by simp [World.cell?,hbx]
   have HBX:=aa hbx;clear hbx;have HOW:=aa hown;clear hown;cases hlog:s.log.toList.isEmpty with
   | true =>
    have hlogt:(if s.log.toList.isEmpty then ([]:List ByteArray) else [s.log])=[]:=by rw [hlog];rfl
    have HLT:=aa hlogt;clear hlogt;cases pool with
    | false =>
     have HE:Hid (dD s false=al):=aa (by rw [HU.out,HLT.out];simp);clear HU;go_wp2;go_ret;exact ⟨_,rfl,by rw [HE.out];exact dF.mono HOW.out (by omega),hB⟩
    | true =>
     by_cases hk:s.kind=6
     ·have HE:Hid (dD s true=al++[s.pool]):=aa (by rw [HU.out,HLT.out,hk];simp)
      have hkq:(s.kind == 6)=true:=by simpa using hk
      have hws:=hB.size;clear HU
      go_wp2_with (at_builtin;refine dz rfl _ _ rfl (w.heap.size+1) _ (al) s.pool rfl ?a1 wr.heap.size 1 rfl ?a2 ?a3 ?a4 ?_)
      case a1=>exact HOW.out.alloc _
      case a2=>exact aD rfl rfl
      case a3=>omega
      case a4=>simp;omega
      intro v' w9 hown9 hb9 _;have HO9:=aa hown9;clear hown9;have HB9:=aa ((hB.alloc hB.size _).trans (hb9.mono (by omega)));clear hb9;go_wp2;go_ret;exact ⟨_,rfl,by rw [HE.out];exact dF.mono HO9.out (by omega),HB9.out⟩
     ·have HE:Hid (dD s true=al):=aa (by rw [HU.out,HLT.out];simp [hk])
      have hkq:(s.kind == 6)=false:=by simpa using hk
      clear HU;go_wp2;go_ret;exact ⟨_,rfl,by rw [HE.out];exact dF.mono HOW.out (by omega),hB⟩
   | false =>
    have hlogt:(if s.log.toList.isEmpty then ([]:List ByteArray) else [s.log])=[s.log]:=by rw [hlog];rfl
    have HLT:=aa hlogt;clear hlogt
    go_wp2_with (at_builtin;refine dz rfl _ _ rfl (w.heap.size+1) _ al s.log rfl ?d1 wr.heap.size 1 rfl ?d2 (by omega) ?d3 ?_)
    case d1=>exact HOW.out.alloc _
    case d2=>exact aD rfl rfl
    case d3=>simp;omega
    intro v1 w1 hown1 hb1 _;have HO1:=aa hown1;clear hown1;have hB1:Below w.heap.size w w1:=(hB.alloc hB.size _).trans (hb1.mono (by omega));have hbx1:=(hb1.block w.heap.size (by omega)).trans ((Below.heap_alloc _ _ _ hwr).trans HBX.out);have y2:w1.cell? ⟨w.heap.size,2,none⟩=some (.int .i64 s.kind):=by simp [World.cell?,hbx1]
    have y7:w1.cell? ⟨w.heap.size,7,none⟩=some (.string s.pool):=by simp [World.cell?,hbx1]
    have hw1:w.heap.size<w1.heap.size:=lt_of_block hbx1;clear hb1 hbx1;cases pool with
    | false =>
     have HE:Hid (dD s false=(al++[s.log])):=aa (by rw [HU.out,HLT.out];simp);clear HU;go_wp2;go_ret;exact ⟨_,rfl,by rw [HE.out];exact dF.mono HO1.out (by omega),hB1⟩
    | true =>
     by_cases hk:s.kind=6
     ·have HE:Hid (dD s true=(al++[s.log])++[s.pool]):=aa (by rw [HU.out,HLT.out,hk];simp)
      have hkq:(s.kind == 6)=true:=by simpa using hk
      have hws:=hB1.size;clear HU
      go_wp2_with (at_builtin;refine dz rfl _ _ rfl (w.heap.size+1) _ ((al++[s.log])) s.pool rfl ?b1 w1.heap.size 1 rfl ?b2 ?b3 ?b4 ?_)
      case b1=>exact HO1.out.alloc _
      case b2=>exact aD rfl rfl
      case b3=>simp;omega
      case b4=>simp;omega
      intro v' w9 hown9 hb9 _;have HO9:=aa hown9;clear hown9;have HB9:=aa ((hB1.alloc hB1.size _).trans (hb9.mono (by omega)));clear hb9;go_wp2;go_ret;exact ⟨_,rfl,by rw [HE.out];simp only [List.append_assoc,List.cons_append,List.nil_append];exact dF.mono HO9.out (by omega),HB9.out⟩
     ·have HE:Hid (dD s true=(al++[s.log])):=aa (by rw [HU.out,HLT.out];simp [hk])
      have hkq:(s.kind == 6)=false:=by simpa using hk
      clear HU;go_wp2;go_ret;exact ⟨_,rfl,by rw [HE.out];exact dF.mono HO1.out (by omega),hB1⟩
def dm (x:eX):List Value:=[.int .i64 x.least,.int .i64 x.greatest,.bool x.F9,.bool x.several,.int .i64 x.chunk,.bool x.stale,.bool x.pool,.bool x.log,.bool x.mode,.bool x.done]
theorem xY {ok:Nat→Prop}(s:aB)(x:eX)(u:List Value)(w:World)(hv:bC ok w u s)(ha:s.Ga.length≤1000000)(hl:s.stale.length≤1000000) :
  Calls Tryz.prog 190 #[.agg u.toArray,.agg (dm x).toArray] w fun e w'=>e=.returned (.bool (dP s x))∧Below w.heap.size w w':=by
 unfold dm;obtain ⟨av,stv,rfl,har,hst⟩:=hv;obtain ⟨ap,ac,rfl,hac1,hac2⟩:=har.cap;obtain ⟨stp,stc,rfl,hsc1,hsc2⟩:=hst.cap;have HA:=aa hst;clear har hst;have HM:Hid (dP s x=_):=aa (dP.eq_1 s x)
 obtain ⟨e,he,hel⟩:∃ e:Nat,(e:Int)=(s.Ga.length+if s.log.toList.isEmpty then 0 else 1:Int)∧e≤1000001:=by
  cases s.log.toList.isEmpty
  ·exact ⟨s.Ga.length+1,by simp,by omega⟩
  ·exact ⟨s.Ga.length,by simp,by omega⟩
 rw [← he] at HM;cases hst:x.stale with
 | true =>
  rw [hst] at HM;clear hst;have HB2:=aa ((ae w (.cells #[.int .i64 s.start,.int .i64 s.length,.int .i64 s.kind,.slice ap s.Ga.length ac,.int .i64 s.chunk,.slice stp s.stale.length stc,.string s.log,.string s.pool,.int .i64 s.device,.int .i64 s.mode,.int .i64 s.done] 79)).trans ((ae (w.alloc (.cells #[.int .i64 s.start,.int .i64 s.length,.int .i64 s.kind,.slice ap s.Ga.length ac,.int .i64 s.chunk,.slice stp s.stale.length stc,.string s.log,.string s.pool,.int .i64 s.device,.int .i64 s.mode,.int .i64 s.done] 79)) (.cells #[.int .i64 x.least,.int .i64 x.greatest,.bool x.F9,.bool x.several,.int .i64 x.chunk,.bool true,.bool x.pool,.bool x.log,.bool x.mode,.bool x.done] 183)).mono (ae w (.cells #[.int .i64 s.start,.int .i64 s.length,.int .i64 s.kind,.slice ap s.Ga.length ac,.int .i64 s.chunk,.slice stp s.stale.length stc,.string s.log,.string s.pool,.int .i64 s.device,.int .i64 s.mode,.int .i64 s.done] 79)).size));have x5:((w.alloc (.cells #[.int .i64 s.start,.int .i64 s.length,.int .i64 s.kind,.slice ap s.Ga.length ac,.int .i64 s.chunk,.slice stp s.stale.length stc,.string s.log,.string s.pool,.int .i64 s.device,.int .i64 s.mode,.int .i64 s.done] 79)).alloc (.cells #[.int .i64 x.least,.int .i64 x.greatest,.bool x.F9,.bool x.several,.int .i64 x.chunk,.bool true,.bool x.pool,.bool x.log,.bool x.mode,.bool x.done] 183)).cell? ⟨w.heap.size+1,5,none⟩=some (.bool true):=aD (by simp) rfl;have s5:((w.alloc (.cells #[.int .i64 s.start,.int .i64 s.length,.int .i64 s.kind,.slice ap s.Ga.length ac,.int .i64 s.chunk,.slice stp s.stale.length stc,.string s.log,.string s.pool,.int .i64 s.device,.int .i64 s.mode,.int .i64 s.done] 79)).alloc (.cells #[.int .i64 x.least,.int .i64 x.greatest,.bool x.F9,.bool x.several,.int .i64 x.chunk,.bool true,.bool x.pool,.bool x.log,.bool x.mode,.bool x.done] 183)).cell? ⟨w.heap.size,5,none⟩=some (.slice stp s.stale.length stc):=(World.cell?_of_block (a:=⟨w.heap.size,5,none⟩) (Below.heap_alloc _ _ _ (by simp))).trans (aD rfl rfl);cases hlog:s.log.toList.isEmpty with
  | true =>
   have he1:Hid ((e:Int)=(s.Ga.length:Int)):=aa (by rw [he,hlog];simp);clear he;go_enter Tryz.func190,Tryz.ntmps190;go_wp2;generalize hW:World.alloc (World.alloc w _) _=W at *;have HW:=aa hW;clear hW
   go_loop [19,6,7] (fun i _ _=>∃ k:Nat,k≤s.stale.length∧i=.int .i64 k∧∀ j,j<k→bR true e s.stale j=true) (fun i _ _=>s.stale.length - (intOf i).toNat)
   case atStart=>exact ⟨0,Nat.zero_le _,rfl,fun j hj=>by omega⟩
   case round =>
    obtain ⟨k,hk,rfl,hall⟩:=hrel;have HALL:=aa hall;clear hall
    by_cases hlt:k<s.stale.length
    ·obtain ⟨n,hn⟩:=aj s.stale k hlt
     obtain ⟨b,off,us,rfl,_,hbw,hul,hvs,hcv⟩:=HA.out.elem hn;obtain rfl:us=_:=hvs;have q0:=(HB2.out.cell (p:=⟨b,off+k*1+0,none⟩) hbw).trans (hcv 0 _ rfl);rw [Nat.mul_one,Nat.add_zero] at q0;have hgk:s.stale.getD k 0=n:=by simp [hn]
     have bad:Hid (bR true e s.stale k=false→dP s x=false):=aa fun h=>by
      rw [HM.out,List.all_eq_false];exact ⟨k,List.mem_range.2 hlt,by simp [h]⟩
     have good:Hid (bR true e s.stale k=true→∀ j,j<k+1→bR true e s.stale j=true):=aa fun h j hj=>by
      by_cases hjk:j=k
      ·exact hjk ▸ h
      ·exact HALL.out j (by omega)
     have HMA:Hid (bR true e s.stale k=_):=aa (bR.eq_1 true e s.stale k);rw [hgk] at HMA;clear hgk hcv hul hn
     by_cases h0:0≤n
     ·by_cases h1:n<e
      ·have h1':n<(s.Ga.length:Int):=by have:=he1.out;omega
       by_cases hk0:k<1
       ·have HOK:Hid (bR true e s.stale k=true):=aa (by rw [HMA.out,decide_eq_true (show k=0 by omega)];simp [h0,h1])
        go_wp2;go_round
        case rel=>exact ⟨k+1,by omega,by go_num,good.out HOK.out⟩
        case measure=>simp [intOf];omega
       ·obtain ⟨m,hm⟩:=aj s.stale (k - 1) (by omega)
        obtain ⟨b',off',us',e',_,hbw',hul',hvs',hcv'⟩:=HA.out.elem hm;obtain rfl:us'=_:=hvs';injection e' with e'
        injection e' with eb eo
        subst eb;subst eo;have q1:=(HB2.out.cell (p:=⟨b,off+(k - 1)*1+0,none⟩) hbw).trans (hcv' 0 _ rfl);rw [Nat.mul_one,Nat.add_zero] at q1;have hgm:s.stale.getD (k - 1) 0=m:=by simp [hm]
        rw [hgm] at HMA;clear hgm hcv' hul' hbw' hm
        by_cases h2:m<n
        ·have HOK:Hid (bR true e s.stale k=true):=aa (by rw [HMA.out];simp [h0,h1,h2])
         go_wp2;go_round
         case rel=>exact ⟨k+1,by omega,by go_num,good.out HOK.out⟩
         case measure=>simp [intOf];omega
        ·go_wp2
         go_ret;exact ⟨ah (bad.out (by rw [HMA.out,decide_eq_false (show ¬ k=0 by omega),decide_eq_false (show ¬ m<n by omega)];simp)).symm,HB2.out⟩
      ·have h1':¬ n<(s.Ga.length:Int):=by have:=he1.out;omega
       go_wp2;go_ret;exact ⟨ah (bad.out (by rw [HMA.out,decide_eq_false (show ¬ n<(e:Int) by omega)];simp)).symm,HB2.out⟩
     ·go_wp2
      go_ret;exact ⟨ah (bad.out (by rw [HMA.out,decide_eq_false (show ¬ 0≤n by omega)];simp)).symm,HB2.out⟩
    ·go_wp2
     go_ret;refine ⟨ah (Eq.symm ?_),HB2.out⟩;rw [HM.out,List.all_eq_true];exact fun j hj=>HALL.out j (by have:=List.mem_range.1 hj;omega)
  | false =>
   have he1:Hid ((e:Int)=(s.Ga.length:Int)+1):=aa (by rw [he,hlog];simp);clear he;go_enter Tryz.func190,Tryz.ntmps190;go_wp2;generalize hW:World.alloc (World.alloc w _) _=W at *;have HW:=aa hW;clear hW
   go_loop [19,6,7] (fun i _ _=>∃ k:Nat,k≤s.stale.length∧i=.int .i64 k∧∀ j,j<k→bR true e s.stale j=true) (fun i _ _=>s.stale.length - (intOf i).toNat)
   case atStart=>exact ⟨0,Nat.zero_le _,rfl,fun j hj=>by omega⟩
   case round =>
    obtain ⟨k,hk,rfl,hall⟩:=hrel;have HALL:=aa hall;clear hall
    by_cases hlt:k<s.stale.length
    ·obtain ⟨n,hn⟩:=aj s.stale k hlt
     obtain ⟨b,off,us,rfl,_,hbw,hul,hvs,hcv⟩:=HA.out.elem hn;obtain rfl:us=_:=hvs;have q0:=(HB2.out.cell (p:=⟨b,off+k*1+0,none⟩) hbw).trans (hcv 0 _ rfl);rw [Nat.mul_one,Nat.add_zero] at q0;have hgk:s.stale.getD k 0=n:=by simp [hn]
     have bad:Hid (bR true e s.stale k=false→dP s x=false):=aa fun h=>by
      rw [HM.out,List.all_eq_false];exact ⟨k,List.mem_range.2 hlt,by simp [h]⟩
     have good:Hid (bR true e s.stale k=true→∀ j,j<k+1→bR true e s.stale j=true):=aa fun h j hj=>by
      by_cases hjk:j=k
      ·exact hjk ▸ h
      ·exact HALL.out j (by omega)
     have HMA:Hid (bR true e s.stale k=_):=aa (bR.eq_1 true e s.stale k);rw [hgk] at HMA;clear hgk hcv hul hn
     by_cases h0:0≤n
     ·by_cases h1:n<e
      ·have h1':n<(s.Ga.length:Int)+1:=by have:=he1.out;omega
       by_cases hk0:k<1
       ·have HOK:Hid (bR true e s.stale k=true):=aa (by rw [HMA.out,decide_eq_true (show k=0 by omega)];simp [h0,h1])
        go_wp2;go_round
        case rel=>exact ⟨k+1,by omega,by go_num,good.out HOK.out⟩
        case measure=>simp [intOf];omega
       ·obtain ⟨m,hm⟩:=aj s.stale (k - 1) (by omega)
        obtain ⟨b',off',us',e',_,hbw',hul',hvs',hcv'⟩:=HA.out.elem hm;obtain rfl:us'=_:=hvs';injection e' with e'
        injection e' with eb eo
        subst eb;subst eo;have q1:=(HB2.out.cell (p:=⟨b,off+(k - 1)*1+0,none⟩) hbw).trans (hcv' 0 _ rfl);rw [Nat.mul_one,Nat.add_zero] at q1;have hgm:s.stale.getD (k - 1) 0=m:=by simp [hm]
        rw [hgm] at HMA;clear hgm hcv' hul' hbw' hm
        by_cases h2:m<n
        ·have HOK:Hid (bR true e s.stale k=true):=aa (by rw [HMA.out];simp [h0,h1,h2])
         go_wp2;go_round
         case rel=>exact ⟨k+1,by omega,by go_num,good.out HOK.out⟩
         case measure=>simp [intOf];omega
        ·go_wp2
         go_ret;exact ⟨ah (bad.out (by rw [HMA.out,decide_eq_false (show ¬ k=0 by omega),decide_eq_false (show ¬ m<n by omega)];simp)).symm,HB2.out⟩
      ·have h1':¬ n<(s.Ga.length:Int)+1:=by have:=he1.out;omega
       go_wp2;go_ret;exact ⟨ah (bad.out (by rw [HMA.out,decide_eq_false (show ¬ n<(e:Int) by omega)];simp)).symm,HB2.out⟩
     ·go_wp2
      go_ret;exact ⟨ah (bad.out (by rw [HMA.out,decide_eq_false (show ¬ 0≤n by omega)];simp)).symm,HB2.out⟩
    ·go_wp2
     go_ret;refine ⟨ah (Eq.symm ?_),HB2.out⟩;rw [HM.out,List.all_eq_true];exact fun j hj=>HALL.out j (by have:=List.mem_range.1 hj;omega)
 | false =>
  rw [hst] at HM;clear hst;have HB2:=aa ((ae w (.cells #[.int .i64 s.start,.int .i64 s.length,.int .i64 s.kind,.slice ap s.Ga.length ac,.int .i64 s.chunk,.slice stp s.stale.length stc,.string s.log,.string s.pool,.int .i64 s.device,.int .i64 s.mode,.int .i64 s.done] 79)).trans ((ae (w.alloc (.cells #[.int .i64 s.start,.int .i64 s.length,.int .i64 s.kind,.slice ap s.Ga.length ac,.int .i64 s.chunk,.slice stp s.stale.length stc,.string s.log,.string s.pool,.int .i64 s.device,.int .i64 s.mode,.int .i64 s.done] 79)) (.cells #[.int .i64 x.least,.int .i64 x.greatest,.bool x.F9,.bool x.several,.int .i64 x.chunk,.bool false,.bool x.pool,.bool x.log,.bool x.mode,.bool x.done] 183)).mono (ae w (.cells #[.int .i64 s.start,.int .i64 s.length,.int .i64 s.kind,.slice ap s.Ga.length ac,.int .i64 s.chunk,.slice stp s.stale.length stc,.string s.log,.string s.pool,.int .i64 s.device,.int .i64 s.mode,.int .i64 s.done] 79)).size));have x5:((w.alloc (.cells #[.int .i64 s.start,.int .i64 s.length,.int .i64 s.kind,.slice ap s.Ga.length ac,.int .i64 s.chunk,.slice stp s.stale.length stc,.string s.log,.string s.pool,.int .i64 s.device,.int .i64 s.mode,.int .i64 s.done] 79)).alloc (.cells #[.int .i64 x.least,.int .i64 x.greatest,.bool x.F9,.bool x.several,.int .i64 x.chunk,.bool false,.bool x.pool,.bool x.log,.bool x.mode,.bool x.done] 183)).cell? ⟨w.heap.size+1,5,none⟩=some (.bool false):=aD (by simp) rfl;have s5:((w.alloc (.cells #[.int .i64 s.start,.int .i64 s.length,.int .i64 s.kind,.slice ap s.Ga.length ac,.int .i64 s.chunk,.slice stp s.stale.length stc,.string s.log,.string s.pool,.int .i64 s.device,.int .i64 s.mode,.int .i64 s.done] 79)).alloc (.cells #[.int .i64 x.least,.int .i64 x.greatest,.bool x.F9,.bool x.several,.int .i64 x.chunk,.bool false,.bool x.pool,.bool x.log,.bool x.mode,.bool x.done] 183)).cell? ⟨w.heap.size,5,none⟩=some (.slice stp s.stale.length stc):=(World.cell?_of_block (a:=⟨w.heap.size,5,none⟩) (Below.heap_alloc _ _ _ (by simp))).trans (aD rfl rfl);cases hlog:s.log.toList.isEmpty with
  | true =>
   have he1:Hid ((e:Int)=(s.Ga.length:Int)):=aa (by rw [he,hlog];simp);clear he;go_enter Tryz.func190,Tryz.ntmps190;go_wp2;generalize hW:World.alloc (World.alloc w _) _=W at *;have HW:=aa hW;clear hW
   go_loop [19,6,7] (fun i _ _=>∃ k:Nat,k≤s.stale.length∧i=.int .i64 k∧∀ j,j<k→bR false e s.stale j=true) (fun i _ _=>s.stale.length - (intOf i).toNat)
   case atStart=>exact ⟨0,Nat.zero_le _,rfl,fun j hj=>by omega⟩
   case round =>
    obtain ⟨k,hk,rfl,hall⟩:=hrel;have HALL:=aa hall;clear hall
    by_cases hlt:k<s.stale.length
    ·obtain ⟨n,hn⟩:=aj s.stale k hlt
     obtain ⟨b,off,us,rfl,_,hbw,hul,hvs,hcv⟩:=HA.out.elem hn;obtain rfl:us=_:=hvs;have q0:=(HB2.out.cell (p:=⟨b,off+k*1+0,none⟩) hbw).trans (hcv 0 _ rfl);rw [Nat.mul_one,Nat.add_zero] at q0;have hgk:s.stale.getD k 0=n:=by simp [hn]
     have bad:Hid (bR false e s.stale k=false→dP s x=false):=aa fun h=>by
      rw [HM.out,List.all_eq_false];exact ⟨k,List.mem_range.2 hlt,by simp [h]⟩
     have good:Hid (bR false e s.stale k=true→∀ j,j<k+1→bR false e s.stale j=true):=aa fun h j hj=>by
      by_cases hjk:j=k
      ·exact hjk ▸ h
      ·exact HALL.out j (by omega)
     have HMA:Hid (bR false e s.stale k=_):=aa (bR.eq_1 false e s.stale k);rw [hgk] at HMA;clear hgk hcv hul hn;go_wp2;go_ret;exact ⟨ah (bad.out (by rw [HMA.out];simp)).symm,HB2.out⟩
    ·go_wp2
     go_ret;refine ⟨ah (Eq.symm ?_),HB2.out⟩;rw [HM.out,List.all_eq_true];exact fun j hj=>HALL.out j (by have:=List.mem_range.1 hj;omega)
  | false =>
   have he1:Hid ((e:Int)=(s.Ga.length:Int)+1):=aa (by rw [he,hlog];simp);clear he;go_enter Tryz.func190,Tryz.ntmps190;go_wp2;generalize hW:World.alloc (World.alloc w _) _=W at *;have HW:=aa hW;clear hW
   go_loop [19,6,7] (fun i _ _=>∃ k:Nat,k≤s.stale.length∧i=.int .i64 k∧∀ j,j<k→bR false e s.stale j=true) (fun i _ _=>s.stale.length - (intOf i).toNat)
   case atStart=>exact ⟨0,Nat.zero_le _,rfl,fun j hj=>by omega⟩
   case round =>
    obtain ⟨k,hk,rfl,hall⟩:=hrel;have HALL:=aa hall;clear hall
    by_cases hlt:k<s.stale.length
    ·obtain ⟨n,hn⟩:=aj s.stale k hlt
     obtain ⟨b,off,us,rfl,_,hbw,hul,hvs,hcv⟩:=HA.out.elem hn;obtain rfl:us=_:=hvs;have q0:=(HB2.out.cell (p:=⟨b,off+k*1+0,none⟩) hbw).trans (hcv 0 _ rfl);rw [Nat.mul_one,Nat.add_zero] at q0;have hgk:s.stale.getD k 0=n:=by simp [hn]
     have bad:Hid (bR false e s.stale k=false→dP s x=false):=aa fun h=>by
      rw [HM.out,List.all_eq_false];exact ⟨k,List.mem_range.2 hlt,by simp [h]⟩
     have good:Hid (bR false e s.stale k=true→∀ j,j<k+1→bR false e s.stale j=true):=aa fun h j hj=>by
      by_cases hjk:j=k
      ·exact hjk ▸ h
      ·exact HALL.out j (by omega)
     have HMA:Hid (bR false e s.stale k=_):=aa (bR.eq_1 false e s.stale k);rw [hgk] at HMA;clear hgk hcv hul hn;go_wp2;go_ret;exact ⟨ah (bad.out (by rw [HMA.out];simp)).symm,HB2.out⟩
    ·go_wp2
     go_ret;refine ⟨ah (Eq.symm ?_),HB2.out⟩;rw [HM.out,List.all_eq_true];exact fun j hj=>HALL.out j (by have:=List.mem_range.1 hj;omega)
noncomputable def Ai (f:Func)(n:Nat):Code:=((f.body.bind (kX n)).getD .skip)
structure bN where
 tp:Option Addr
 tc:Nat
 dp:Option Addr
 dc:Nat
 vp:Option Addr
 vc:Nat
 hp:Option Addr
 hc:Nat
def uY (g:af)(a:bN):List Value:=[.string g.name,.int .u64 g.id,.int .i64 g.seq,.int .i64 g.Gd,.int .i64 g.next,.slice a.tp g.tags.length a.tc,.slice a.dp g.Gb.length a.dc,.slice a.vp g.F9.length a.vc,.slice a.hp g.history.length a.hc]
structure aY where
 Gi:Int
 Gh:Int
 Gc:Int
 Gg:Int
 tag:ByteArray
 near:ByteArray
 sep:ByteArray
structure dK (r:aY):Prop where
 l:-9223372036854775808≤r.Gi∧r.Gi≤9223372036854775807
 s:-9223372036854775808≤r.Gh∧r.Gh≤9223372036854775807
 e:-9223372036854775808≤r.Gc∧r.Gc≤9223372036854775807
 p:-9223372036854775808≤r.Gg∧r.Gg≤9223372036854775807
 t:r.tag.size≤9223372036854775807
 n:r.near.size≤9223372036854775807
 q:r.sep.size≤9223372036854775807
def FR (l:List ByteArray)(b:Nat)(w:World)(e:Ending)(w':World):Prop:=∃ v:ByteArray,e=.returned (.string v)∧v∈l∧Src w' b∧Mod (fun i=>i=b) w w'
theorem qH (b cap:Nat)(p:Option Addr)(l:List ByteArray)(w:World)(h0:0<l.length)(h1:l.length≤1000)(hr:RdS aF 1 (fun k=>k≠b) w [.slice p l.length cap] l)(h:Src w b) :
  Calls Tryz.prog 28 #[.pointer (some ⟨b,0,none⟩),.slice p l.length cap] w (FR l b w):=by
 have HR:=aa hr;obtain ⟨p',c',e,hc1,hc2⟩:=hr.cap;injection e with e1 _ e3
 subst e1;subst e3;clear hr;go_enter Tryz.func28,Tryz.ntmps28
 go_wp2_with fail
 refine (bY b _ _ (by omega) (by omega) h).mono ?_;rintro e w1 ⟨v,rfl,hv1,hv2,hs,hm⟩;obtain ⟨k,rfl⟩:=Int.eq_ofNat_of_zero_le hv1;obtain ⟨x,hx⟩:=aj l k (by omega);obtain ⟨g,off,u,rfl,hgb,hg,_,hv,hcv⟩:=HR.out.elem hx;obtain rfl:u=[.string x]:=hv
 have hcx:w1.cell? ⟨g,off+k*1,none⟩=some (.string x):=by
  rw [hm.cell hg hgb];simpa using hcv 0 _ rfl
 rw [Nat.mul_one] at hcx;have HX:=aa hx;clear hx hcv;have hkl:k<l.length:=by omega
 go_wp2;go_ret;exact ⟨x,rfl,List.mem_of_getElem? HX.out,hs,hm⟩
end Go.Proofs.YtjdfihglehfelaaGreatDoor
