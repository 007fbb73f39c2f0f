/- Lemmas: ModA, Box, MkT. -/
import Derived.Test.YtjdfihglehfelaaGreatDoorPf11
set_option maxRecDepth 100000
set_option maxHeartbeats 32000000
set_option linter.all false
namespace Go.Proofs.YtjdfihglehfelaaGreatDoor
open Go.Proofs.Tryz
open Go.RowKit Go.Maps
theorem kU {ok:Nat->Prop}(v:ay)(u:List Value)(w:World)(hv:aN ok w u v)(hl:v.Gf.length<=1000000000) :
  Calls prog 146 #[.agg u.toArray] w fun e w'=>e=.returned (.int .i64 (eZ v))/\Below w.heap.size w w':=by
 obtain ⟨tv,sv,rfl,ew,fL⟩:=hv;obtain ⟨tp,tc,rfl,_,_⟩:=ew.cap;obtain ⟨sp,sc,rfl,hsc1,hsc2⟩:=fL.cap;have HS:=aa fL;clear fL;have HB:=aa (ae w (.cells #[.string v.name,.int .u64 v.id,.bool v.hidden,.bool v.ro,.slice tp v.tags.length tc,.slice sp v.Gf.length sc] 55))
 by_cases h1:v.Gf.length=1
 ·obtain ⟨s,hs⟩:=aj v.Gf 0 (by omega)
  have hk:eZ v=s.kind:=by
   unfold eZ
   match eE:v.Gf,h1,hs with
   | [x],_,hs =>
    obtain rfl:x=s:=by simpa using hs
    rfl
  obtain ⟨b,off,us,rfl,_,cX,ez,eE,hcv⟩:=HS.o.elem hs;obtain ⟨a,st,rfl,_,_⟩:=eE;have c2:=(HB.o.cell (p:=⟨b,off+0*11+2,none⟩) cX).trans (hcv 2 _ rfl);rw [Nat.zero_mul,fg] at c2;clear hcv ez hs;rw [hk];clear hk;have hq:((v.Gf.length:Int) == 1)=true:=by rw [h1];rfl
  have h2:0<v.Gf.length:=by omega
  have H1:=aa h1;clear h1;go_enter func146,ntmps146;go_wp2;go_ret;exact ⟨rfl,HB.o⟩
 ·have hk:eZ v=0:=by
   unfold eZ
   match eE:v.Gf with
   | [x]=>rw [eE] at h1;exact absurd rfl h1
   | []=>rfl
   | _ :: _ :: _=>rfl
  rw [hk];clear hk;have hq:((v.Gf.length:Int) == 1)=false:=by simp;omega
  go_enter func146,ntmps146;go_wp2;go_ret;exact ⟨rfl,HB.o⟩
theorem CV (n d:Int)(w:World)(h0:0<=n)(h1:n<=1000000000000)(h2:1<=d)(h3:d<=1000000) :
  Calls prog 151 #[.int .i64 n,.int .i64 d] w fun e w'=>e=.returned (.int .i64 ((n+d - 1) / d))/\w=w':=by
 have hq0:0<=(n+d - 1) / d:=lz (by omega) (by omega);have hq1:(n+d - 1) / d<=n+d - 1:=mS _ (by omega);go_enter func151,ntmps151;go_wp2;go_ret;exact ⟨rfl,rfl⟩
def pV (a b:ByteArray)(e:Int):Bool:=e == 0&&a.toList == b.toList
theorem mJ (a b:ByteArray)(k:Int)(w:World) :
  Calls prog 192 #[.string a,.string b,.int .i64 k] w fun e w'=>e=.returned (.bool (pV a b k))/\w=w':=by
 go_enter func192,ntmps192
 by_cases h:k=0
 ·subst h
  go_wp2;go_ret;exact ⟨ah (by simp [pV]),rfl⟩
 ·have h1:(k == 0)=false:=by simpa using h
  go_wp2;go_ret;exact ⟨ah (by simp [pV,h1]),rfl⟩
theorem di (n lo hi:Int)(used:Bool)(w:World) :
  Calls prog 188 #[.int .i64 n,.int .i64 lo,.int .i64 hi,.bool used] w fun e w'=>e=.returned (.bool (bE n lo hi used))/\w=w':=by
 go_enter func188,ntmps188;cases used with
 | true =>
  by_cases h1:lo<=n
  ·by_cases h2:n<=hi
   ·go_wp2
    go_ret;exact ⟨ah (by simp [bE,h1,h2]),rfl⟩
   ·go_wp2
    go_ret;exact ⟨ah (by simp [bE,h2]),rfl⟩
  ·go_wp2
   go_ret;exact ⟨ah (by rw [bE,aw rfl,cN (by omega:¬ lo<=n)];rfl),rfl⟩
 | false =>
  go_wp2
  all_goals
   go_ret;exact ⟨ah (by simp [bE]),rfl⟩
theorem Be {α β:Type}(f:β->α->β)(b:β)(l:List α)(k:Nat)(x:α)(h:l[k]?=some x):(l.take (k+1)).foldl f b=f ((l.take k).foldl f b) x:=by
 rw [take_snoc' l k x h,List.foldl_append];rfl
theorem lT (n l:Int)(h0:0<=n):0<=fF n l/\fF n l<=1073741824:=by unfold fF;omega
theorem uZ:∀ (l:List aB) (n:Int),0<=n->n<=1073741824->0<=l.foldl (fun n s=>fF n s.length) n/\l.foldl (fun n s=>fF n s.length) n<=1073741824
 | [],n,h0,h1=>⟨h0,h1⟩
 | s :: l,n,h0,_=>uZ l _ (lT n s.length h0).1 (lT n s.length h0).2
theorem yz {ok:Nat->Prop}(v:ay)(u:List Value)(w:World)(hv:aN ok w u v)(hl:v.Gf.length<=1000000000) :
  Calls prog 149 #[.agg u.toArray] w fun e w'=>e=.returned (.int .i64 (C8 v))/\Below w.heap.size w w':=by
 obtain ⟨tv,sv,rfl,ew,fL⟩:=hv;obtain ⟨tp,tc,rfl,_,_⟩:=ew.cap;obtain ⟨sp,sc,rfl,hsc1,hsc2⟩:=fL.cap;have HS:=aa fL;clear fL;have HB:=aa (ae w (.cells #[.string v.name,.int .u64 v.id,.bool v.hidden,.bool v.ro,.slice tp v.tags.length tc,.slice sp v.Gf.length sc] 55));go_enter func149,ntmps149;go_wp2
 go_loopw [3,9] (fun n i wr=>∃ k:Nat,k<=v.Gf.length/\i=.int .i64 k/\n=.int .i64 ((v.Gf.take k).foldl (fun n s=>fF n s.length) 0)/\Below w.heap.size w wr) (fun _ i _=>v.Gf.length - (intOf i).toNat)
 case atStart=>exact ⟨0,cg _,rfl,rfl,HB.o⟩
 case round =>
  obtain ⟨k,hk,rfl,rfl,hB⟩:=hrel;have pB:=uZ (v.Gf.take k) 0 (by omega) (by omega)
  by_cases hlt:k<v.Gf.length
  ·obtain ⟨s,hs⟩:=aj v.Gf k hlt
   obtain ⟨b,off,us,rfl,_,cX,ez,eE,hcv⟩:=HS.o.elem hs;obtain ⟨a,st,rfl,gg,hst⟩:=eE;obtain ⟨ap,ac,rfl,_,_⟩:=gg.cap;obtain ⟨eN,eR,rfl,_,_⟩:=hst.cap;have cT:wr.heap[b]?=w.heap[b]?:=hB.block b cX;obtain ⟨q0,q1,q2,q3,q4,q5,q6,q7,q8,q9,q10⟩:=JG cT hcv;have HF:=aa (Be (fun n s=>fF n (aB.length s)) 0 v.Gf k s hs);generalize (v.Gf.take k).foldl (fun n s=>fF n (aB.length s)) 0=m at *;clear hcv ez hs cT gg hst;go_wp2;go_roundw
   case rel=>exact ⟨k+1,by omega,by go_num,by rw [HF.o];rfl,hB.alloc hB.size _⟩
   case measure=>simp [intOf];omega
  ·obtain rfl:k=v.Gf.length:=by omega
   go_wp2;go_ret;exact ⟨bB (by rw [jz (bk _)];rfl),hB⟩
theorem zw (l:List aR)(k:Nat)(x:aR)(h:l[k]?=some x):((l.take (k+1)).filter (·.vol)).map (·.on)=((l.take k).filter (·.vol)).map (·.on)++if x.vol then [x.on] else []:=by
 rw [take_snoc' l k x h,List.filter_append,gl];cases hx:x.vol <;> simp [List.filter_cons,hx]
def Dx (B:Nat)(w:World)(l:List ByteArray)(e:Ending)(w':World):Prop:=∃ v,e=.returned v/\dF w' B v l/\Below w.heap.size w w'
theorem kN {ok:Nat->Prop}(s:aB)(pool:Bool)(u:List Value)(w:World)(hv:bC ok w u s)(hl:s.Ga.length<=1000000) :
  Calls prog 147 #[.agg u.toArray,.bool pool] w (Dx w.heap.size w (dD s pool)):=by
 obtain ⟨av,kp,rfl,gg,hst⟩:=hv;obtain ⟨ap,ac,rfl,Jl,Jm⟩:=gg.cap;obtain ⟨eN,eR,rfl,_,_⟩:=hst.cap;have HA:=aa gg;clear gg hst;have HU:Hid (dD s pool=_):=aa (dD.eq_1 s pool);go_enter func147,ntmps147;go_wp2
 go_loopw [5,11] (fun l i wr=>∃ k:Nat,k<=s.Ga.length/\i=.int .i64 k/\dF wr (w.heap.size+1) l (((s.Ga.take k).filter (·.vol)).map (·.on))/\wr.heap[w.heap.size]?=some (.cells #[.int .i64 s.start,.int .i64 s.length,.int .i64 s.kind,.slice ap s.Ga.length ac,.int .i64 s.chunk,.slice eN s.stale.length eR,.string s.log,.string s.pool,.int .i64 s.device,.int .i64 s.mode,.int .i64 s.done] 79 (0,0))/\Below w.heap.size w wr) (fun _ i _=>s.Ga.length - (intOf i).toNat)
 case atStart=>exact ⟨0,cg _,rfl,dF.nil _ _,b9 w _,ae w _⟩
 case round =>
  obtain ⟨k,hk,rfl,hown,sk,hB⟩:=hrel;have hwr:w.heap.size<wr.heap.size:=aq sk
  by_cases hlt:k<s.Ga.length
  ·obtain ⟨x,hx⟩:=aj s.Ga k hlt
   obtain ⟨b,off,us,rfl,_,cX,ez,eE,hcv⟩:=HA.o.elem hx;obtain rfl:us=_:=eE;have cT:wr.heap[b]?=w.heap[b]?:=hB.block b cX;obtain ⟨q0,q1,q2⟩:=Mn cT hcv;have HN:=aa (zw s.Ga k x hx)
   have Jb:(((s.Ga.take k).filter (·.vol)).map (·.on)).length<=1000000:=by
    rw [fW];exact cA (tk _ _) (by rw [ey];omega)
   generalize ((s.Ga.take k).filter (·.vol)).map (·.on)=al at *;have Fc:=aa sk;clear sk;clear hcv ez hx cT;cases I2:x.vol with
   | false =>
    rw [I2] at q0;go_wp2;go_roundw
    case rel=>exact ⟨k+1,by omega,by go_num,by rw [HN.o,I2];simp only [pj,fY,eM];exact hown.alloc _,(cj _ _ _ hwr).trans Fc.o,hB.alloc hB.size _⟩
    case measure=>simp [intOf];omega
   | true =>
    rw [I2] at q0;have NU:=((ae wr (.cells #[.bool true,.string x.on,.int .i64 x.start] 60)));have HOW:=aa hown;clear hown
    go_wp2_with (at_builtin;refine dz rfl _ _ rfl (w.heap.size+1) _ al x.on rfl ?c1 (wr.heap.size+1) 1 rfl ?c2 (by omega) ?c3 ?_)
    case c1=>exact (HOW.o.alloc _).alloc _
    case c2=>exact aD (by simp) rfl
    case c3=>simp;omega
    intro v' w1 hown1 hb1 hg1;have hB1:Below w.heap.size w w1:=((hB.alloc hB.size _).alloc (by simp;omega) _).trans (hb1.mono (by omega));have Vf:=aa ((hb1.block w.heap.size (by omega)).trans ((cj _ _ _ (by simp;omega)).trans ((cj _ _ _ hwr).trans Fc.o)));clear hb1 hg1;go_wp2;go_roundw
    case rel=>exact ⟨k+1,by omega,by go_num,by rw [HN.o,I2];exact hown1,Vf.o,hB1⟩
    case measure=>simp [intOf];omega
  ·obtain rfl:k=s.Ga.length:=by omega
   rw [jz (bk _)] at hown
   have Jb:((s.Ga.filter (·.vol)).map (·.on)).length<=1000000:=by
    rw [fW];exact cA (tk _ _) hl
   generalize (s.Ga.filter (·.vol)).map (·.on)=al at *;have y2:=cr sk 2 _ rfl;have y6:=cr sk 6 _ rfl;have y7:=cr sk 7 _ rfl
   have Fc:=aa sk;clear sk;have HOW:=aa hown;clear hown;cases Fi:s.log.toList.isEmpty with
   | true =>
    have Jn:(if s.log.toList.isEmpty then ([]:List ByteArray) else [s.log])=[]:=by rw [Fi];rfl
    have MR:=aa Jn;clear Jn;cases pool with
    | false =>
     have HE:Hid (dD s false=al):=aa (by rw [HU.o,MR.o];simp);clear HU;go_wp2;go_ret;exact ⟨_,rfl,by rw [HE.o];exact dF.mono HOW.o (by omega),hB⟩
    | true =>
     by_cases hk:s.kind=6
     ·have HE:Hid (dD s true=al++[s.pool]):=aa (by rw [HU.o,MR.o,hk];simp)
      have Vg:(s.kind == 6)=true:=by simpa using hk
      have TL:=hB.size;clear HU
      go_wp2_with (at_builtin;refine dz rfl _ _ rfl (w.heap.size+1) _ (al) s.pool rfl ?a1 wr.heap.size 1 rfl ?a2 ?a3 ?a4 ?_)
      case a1=>exact HOW.o.alloc _
      case a2=>exact aD rfl rfl
      case a3=>omega
      case a4=>simp;omega
      intro v' w9 hown9 hb9 _;have HO9:=aa hown9;clear hown9;have J1:=aa ((hB.alloc hB.size _).trans (hb9.mono (by omega)));clear hb9;go_wp2;go_ret;exact ⟨_,rfl,by rw [HE.o];exact dF.mono HO9.o (by omega),J1.o⟩
     ·have HE:Hid (dD s true=al):=aa (by rw [HU.o,MR.o];simp [hk])
      have Vg:(s.kind == 6)=false:=by simpa using hk
      clear HU;go_wp2;go_ret;exact ⟨_,rfl,by rw [HE.o];exact dF.mono HOW.o (by omega),hB⟩
   | false =>
    have Jn:(if s.log.toList.isEmpty then ([]:List ByteArray) else [s.log])=[s.log]:=by rw [Fi];rfl
    have MR:=aa Jn;clear Jn
    go_wp2_with (at_builtin;refine dz rfl _ _ rfl (w.heap.size+1) _ al s.log rfl ?d1 wr.heap.size 1 rfl ?d2 (by omega) ?d3 ?_)
    case d1=>exact HOW.o.alloc _
    case d2=>exact aD rfl rfl
    case d3=>simp;omega
    intro v1 w1 hown1 hb1 _;have HO1:=aa hown1;clear hown1;have hB1:Below w.heap.size w w1:=(hB.alloc hB.size _).trans (hb1.mono (by omega));have MS:=(hb1.block w.heap.size (by omega)).trans ((cj _ _ _ hwr).trans Fc.o);have y2:=cr MS 2 _ rfl;have y7:=cr MS 7 _ rfl
    have hw1:w.heap.size<w1.heap.size:=aq MS;clear hb1 MS;cases pool with
    | false =>
     have HE:Hid (dD s false=(al++[s.log])):=aa (by rw [HU.o,MR.o];simp);clear HU;go_wp2;go_ret;exact ⟨_,rfl,by rw [HE.o];exact dF.mono HO1.o (by omega),hB1⟩
    | true =>
     by_cases hk:s.kind=6
     ·have HE:Hid (dD s true=(al++[s.log])++[s.pool]):=aa (by rw [HU.o,MR.o,hk];simp)
      have Vg:(s.kind == 6)=true:=by simpa using hk
      have TL:=hB1.size;clear HU
      go_wp2_with (at_builtin;refine dz rfl _ _ rfl (w.heap.size+1) _ ((al++[s.log])) s.pool rfl ?b1 w1.heap.size 1 rfl ?b2 ?b3 ?b4 ?_)
      case b1=>exact HO1.o.alloc _
      case b2=>exact aD rfl rfl
      case b3=>simp;omega
      case b4=>simp;omega
      intro v' w9 hown9 hb9 _;have HO9:=aa hown9;clear hown9;have J1:=aa ((hB1.alloc hB1.size _).trans (hb9.mono (by omega)));clear hb9;go_wp2;go_ret;exact ⟨_,rfl,by rw [HE.o];simp only [cV,List.cons_append,List.nil_append];exact dF.mono HO9.o (by omega),J1.o⟩
     ·have HE:Hid (dD s true=(al++[s.log])):=aa (by rw [HU.o,MR.o];simp [hk])
      have Vg:(s.kind == 6)=false:=by simpa using hk
      clear HU;go_wp2;go_ret;exact ⟨_,rfl,by rw [HE.o];exact dF.mono HO1.o (by omega),hB1⟩
def dm (x:eX):List Value:=[.int .i64 x.least,.int .i64 x.greatest,.bool x.F9,.bool x.several,.int .i64 x.chunk,.bool x.stale,.bool x.pool,.bool x.log,.bool x.mode,.bool x.done]
theorem xY {ok:Nat->Prop}(s:aB)(x:eX)(u:List Value)(w:World)(hv:bC ok w u s)(ha:s.Ga.length<=1000000)(hl:s.stale.length<=1000000) :
  Calls prog 190 #[.agg u.toArray,.agg (dm x).toArray] w fun e w'=>e=.returned (.bool (dP s x))/\Below w.heap.size w w':=by
 unfold dm;obtain ⟨av,kp,rfl,gg,hst⟩:=hv;obtain ⟨ap,ac,rfl,Jl,Jm⟩:=gg.cap;obtain ⟨eN,eR,rfl,hsc1,hsc2⟩:=hst.cap;have HA:=aa hst;clear gg hst;have HM:Hid (dP s x=_):=aa (dP.eq_1 s x)
 obtain ⟨e,he,Vh⟩:∃ e:Nat,(e:Int)=(s.Ga.length+if s.log.toList.isEmpty then 0 else 1:Int)/\e<=1000001:=by
  cases s.log.toList.isEmpty
  ·exact ⟨s.Ga.length+1,by simp,by omega⟩
  ·exact ⟨s.Ga.length,by simp,by omega⟩
 rw [<- he] at HM;cases hst:x.stale with
 | true =>
  rw [hst] at HM;clear hst;have cm:=aa ((ae w (.cells #[.int .i64 s.start,.int .i64 s.length,.int .i64 s.kind,.slice ap s.Ga.length ac,.int .i64 s.chunk,.slice eN s.stale.length eR,.string s.log,.string s.pool,.int .i64 s.device,.int .i64 s.mode,.int .i64 s.done] 79)).trans ((ae (w.alloc (.cells #[.int .i64 s.start,.int .i64 s.length,.int .i64 s.kind,.slice ap s.Ga.length ac,.int .i64 s.chunk,.slice eN s.stale.length eR,.string s.log,.string s.pool,.int .i64 s.device,.int .i64 s.mode,.int .i64 s.done] 79)) (.cells #[.int .i64 x.least,.int .i64 x.greatest,.bool x.F9,.bool x.several,.int .i64 x.chunk,.bool true,.bool x.pool,.bool x.log,.bool x.mode,.bool x.done] 183)).mono (ae w (.cells #[.int .i64 s.start,.int .i64 s.length,.int .i64 s.kind,.slice ap s.Ga.length ac,.int .i64 s.chunk,.slice eN s.stale.length eR,.string s.log,.string s.pool,.int .i64 s.device,.int .i64 s.mode,.int .i64 s.done] 79)).size));have x5:((w.alloc (.cells #[.int .i64 s.start,.int .i64 s.length,.int .i64 s.kind,.slice ap s.Ga.length ac,.int .i64 s.chunk,.slice eN s.stale.length eR,.string s.log,.string s.pool,.int .i64 s.device,.int .i64 s.mode,.int .i64 s.done] 79)).alloc (.cells #[.int .i64 x.least,.int .i64 x.greatest,.bool x.F9,.bool x.several,.int .i64 x.chunk,.bool true,.bool x.pool,.bool x.log,.bool x.mode,.bool x.done] 183)).cell? ⟨w.heap.size+1,5,none⟩=some (.bool true):=aD (by simp) rfl;have s5:((w.alloc (.cells #[.int .i64 s.start,.int .i64 s.length,.int .i64 s.kind,.slice ap s.Ga.length ac,.int .i64 s.chunk,.slice eN s.stale.length eR,.string s.log,.string s.pool,.int .i64 s.device,.int .i64 s.mode,.int .i64 s.done] 79)).alloc (.cells #[.int .i64 x.least,.int .i64 x.greatest,.bool x.F9,.bool x.several,.int .i64 x.chunk,.bool true,.bool x.pool,.bool x.log,.bool x.mode,.bool x.done] 183)).cell? ⟨w.heap.size,5,none⟩=some (.slice eN s.stale.length eR):=(cd (a:=⟨w.heap.size,5,none⟩) (cj _ _ _ (by simp))).trans (aD rfl rfl);cases Fi:s.log.toList.isEmpty with
  | true =>
   have he1:Hid ((e:Int)=(s.Ga.length:Int)):=aa (by rw [he,Fi];simp);clear he;go_enter func190,ntmps190;go_wp2;generalize hW:World.alloc (World.alloc w _) _=W at *;have HW:=aa hW;clear hW
   go_loop [19,6,7] (fun i _ _=>∃ k:Nat,k<=s.stale.length/\i=.int .i64 k/\∀ j,j<k->bR true e s.stale j=true) (fun i _ _=>s.stale.length - (intOf i).toNat)
   case atStart=>exact ⟨0,cg _,rfl,fun j hj=>by omega⟩
   case round =>
    obtain ⟨k,hk,rfl,hall⟩:=hrel;have cE:=aa hall;clear hall
    by_cases hlt:k<s.stale.length
    ·obtain ⟨n,hn⟩:=aj s.stale k hlt
     obtain ⟨b,off,us,rfl,_,cX,ez,eE,hcv⟩:=HA.o.elem hn;obtain rfl:us=_:=eE;have q0:=(cm.o.cell (p:=⟨b,off+k*1+0,none⟩) cX).trans (hcv 0 _ rfl);rw [fp,fg] at q0;have K3:s.stale.getD k 0=n:=by simp [hn]
     have bad:Hid (bR true e s.stale k=false->dP s x=false):=aa fun h=>by
      rw [HM.o,lr];exact ⟨k,List.mem_range.2 hlt,by simp [h]⟩
     have good:Hid (bR true e s.stale k=true->∀ j,j<k+1->bR true e s.stale j=true):=aa fun h j hj=>by
      by_cases hjk:j=k
      ·exact hjk ▸ h
      ·exact cE.o j (by omega)
     have G1:Hid (bR true e s.stale k=_):=aa (bR.eq_1 true e s.stale k);rw [K3] at G1;clear K3 hcv ez hn
     by_cases h0:0<=n
     ·by_cases h1:n<e
      ·have h1':n<(s.Ga.length:Int):=by have:=he1.o;omega
       by_cases hk0:k<1
       ·have j9:Hid (bR true e s.stale k=true):=aa (by rw [G1.o,eA (show k=0 by omega)];simp [h0,h1])
        go_wp2;go_round
        case rel=>exact ⟨k+1,by omega,by go_num,good.o j9.o⟩
        case measure=>simp [intOf];omega
       ·obtain ⟨m,hm⟩:=aj s.stale (k - 1) (by omega)
        obtain ⟨b',off',us',e',_,J2,wb,wj,hcv'⟩:=HA.o.elem hm;obtain rfl:us'=_:=wj;injection e' with e'
        injection e' with eb eo
        subst eb;subst eo;have q1:=(cm.o.cell (p:=⟨b,off+(k - 1)*1+0,none⟩) cX).trans (hcv' 0 _ rfl);rw [fp,fg] at q1;have KA:s.stale.getD (k - 1) 0=m:=by simp [hm]
        rw [KA] at G1;clear KA hcv' wb J2 hm
        by_cases h2:m<n
        ·have j9:Hid (bR true e s.stale k=true):=aa (by rw [G1.o];simp [h0,h1,h2])
         go_wp2;go_round
         case rel=>exact ⟨k+1,by omega,by go_num,good.o j9.o⟩
         case measure=>simp [intOf];omega
        ·go_wp2
         go_ret;exact ⟨ah (bad.o (by rw [G1.o,cN (show ¬ k=0 by omega),cN (show ¬ m<n by omega)];simp)).symm,cm.o⟩
      ·have h1':¬ n<(s.Ga.length:Int):=by have:=he1.o;omega
       go_wp2;go_ret;exact ⟨ah (bad.o (by rw [G1.o,cN (show ¬ n<(e:Int) by omega)];simp)).symm,cm.o⟩
     ·go_wp2
      go_ret;exact ⟨ah (bad.o (by rw [G1.o,cN (show ¬ 0<=n by omega)];simp)).symm,cm.o⟩
    ·go_wp2
     go_ret;refine ⟨ah (Eq.symm ?_),cm.o⟩;rw [HM.o,eL];exact fun j hj=>cE.o j (by have:=List.mem_range.1 hj;omega)
  | false =>
   have he1:Hid ((e:Int)=(s.Ga.length:Int)+1):=aa (by rw [he,Fi];simp);clear he;go_enter func190,ntmps190;go_wp2;generalize hW:World.alloc (World.alloc w _) _=W at *;have HW:=aa hW;clear hW
   go_loop [19,6,7] (fun i _ _=>∃ k:Nat,k<=s.stale.length/\i=.int .i64 k/\∀ j,j<k->bR true e s.stale j=true) (fun i _ _=>s.stale.length - (intOf i).toNat)
   case atStart=>exact ⟨0,cg _,rfl,fun j hj=>by omega⟩
   case round =>
    obtain ⟨k,hk,rfl,hall⟩:=hrel;have cE:=aa hall;clear hall
    by_cases hlt:k<s.stale.length
    ·obtain ⟨n,hn⟩:=aj s.stale k hlt
     obtain ⟨b,off,us,rfl,_,cX,ez,eE,hcv⟩:=HA.o.elem hn;obtain rfl:us=_:=eE;have q0:=(cm.o.cell (p:=⟨b,off+k*1+0,none⟩) cX).trans (hcv 0 _ rfl);rw [fp,fg] at q0;have K3:s.stale.getD k 0=n:=by simp [hn]
     have bad:Hid (bR true e s.stale k=false->dP s x=false):=aa fun h=>by
      rw [HM.o,lr];exact ⟨k,List.mem_range.2 hlt,by simp [h]⟩
     have good:Hid (bR true e s.stale k=true->∀ j,j<k+1->bR true e s.stale j=true):=aa fun h j hj=>by
      by_cases hjk:j=k
      ·exact hjk ▸ h
      ·exact cE.o j (by omega)
     have G1:Hid (bR true e s.stale k=_):=aa (bR.eq_1 true e s.stale k);rw [K3] at G1;clear K3 hcv ez hn
     by_cases h0:0<=n
     ·by_cases h1:n<e
      ·have h1':n<(s.Ga.length:Int)+1:=by have:=he1.o;omega
       by_cases hk0:k<1
       ·have j9:Hid (bR true e s.stale k=true):=aa (by rw [G1.o,eA (show k=0 by omega)];simp [h0,h1])
        go_wp2;go_round
        case rel=>exact ⟨k+1,by omega,by go_num,good.o j9.o⟩
        case measure=>simp [intOf];omega
       ·obtain ⟨m,hm⟩:=aj s.stale (k - 1) (by omega)
        obtain ⟨b',off',us',e',_,J2,wb,wj,hcv'⟩:=HA.o.elem hm;obtain rfl:us'=_:=wj;injection e' with e'
        injection e' with eb eo
        subst eb;subst eo;have q1:=(cm.o.cell (p:=⟨b,off+(k - 1)*1+0,none⟩) cX).trans (hcv' 0 _ rfl);rw [fp,fg] at q1;have KA:s.stale.getD (k - 1) 0=m:=by simp [hm]
        rw [KA] at G1;clear KA hcv' wb J2 hm
        by_cases h2:m<n
        ·have j9:Hid (bR true e s.stale k=true):=aa (by rw [G1.o];simp [h0,h1,h2])
         go_wp2;go_round
         case rel=>exact ⟨k+1,by omega,by go_num,good.o j9.o⟩
         case measure=>simp [intOf];omega
        ·go_wp2
         go_ret;exact ⟨ah (bad.o (by rw [G1.o,cN (show ¬ k=0 by omega),cN (show ¬ m<n by omega)];simp)).symm,cm.o⟩
      ·have h1':¬ n<(s.Ga.length:Int)+1:=by have:=he1.o;omega
       go_wp2;go_ret;exact ⟨ah (bad.o (by rw [G1.o,cN (show ¬ n<(e:Int) by omega)];simp)).symm,cm.o⟩
     ·go_wp2
      go_ret;exact ⟨ah (bad.o (by rw [G1.o,cN (show ¬ 0<=n by omega)];simp)).symm,cm.o⟩
    ·go_wp2
     go_ret;refine ⟨ah (Eq.symm ?_),cm.o⟩;rw [HM.o,eL];exact fun j hj=>cE.o j (by have:=List.mem_range.1 hj;omega)
 | false =>
  rw [hst] at HM;clear hst;have cm:=aa ((ae w (.cells #[.int .i64 s.start,.int .i64 s.length,.int .i64 s.kind,.slice ap s.Ga.length ac,.int .i64 s.chunk,.slice eN s.stale.length eR,.string s.log,.string s.pool,.int .i64 s.device,.int .i64 s.mode,.int .i64 s.done] 79)).trans ((ae (w.alloc (.cells #[.int .i64 s.start,.int .i64 s.length,.int .i64 s.kind,.slice ap s.Ga.length ac,.int .i64 s.chunk,.slice eN s.stale.length eR,.string s.log,.string s.pool,.int .i64 s.device,.int .i64 s.mode,.int .i64 s.done] 79)) (.cells #[.int .i64 x.least,.int .i64 x.greatest,.bool x.F9,.bool x.several,.int .i64 x.chunk,.bool false,.bool x.pool,.bool x.log,.bool x.mode,.bool x.done] 183)).mono (ae w (.cells #[.int .i64 s.start,.int .i64 s.length,.int .i64 s.kind,.slice ap s.Ga.length ac,.int .i64 s.chunk,.slice eN s.stale.length eR,.string s.log,.string s.pool,.int .i64 s.device,.int .i64 s.mode,.int .i64 s.done] 79)).size));have x5:((w.alloc (.cells #[.int .i64 s.start,.int .i64 s.length,.int .i64 s.kind,.slice ap s.Ga.length ac,.int .i64 s.chunk,.slice eN s.stale.length eR,.string s.log,.string s.pool,.int .i64 s.device,.int .i64 s.mode,.int .i64 s.done] 79)).alloc (.cells #[.int .i64 x.least,.int .i64 x.greatest,.bool x.F9,.bool x.several,.int .i64 x.chunk,.bool false,.bool x.pool,.bool x.log,.bool x.mode,.bool x.done] 183)).cell? ⟨w.heap.size+1,5,none⟩=some (.bool false):=aD (by simp) rfl;have s5:((w.alloc (.cells #[.int .i64 s.start,.int .i64 s.length,.int .i64 s.kind,.slice ap s.Ga.length ac,.int .i64 s.chunk,.slice eN s.stale.length eR,.string s.log,.string s.pool,.int .i64 s.device,.int .i64 s.mode,.int .i64 s.done] 79)).alloc (.cells #[.int .i64 x.least,.int .i64 x.greatest,.bool x.F9,.bool x.several,.int .i64 x.chunk,.bool false,.bool x.pool,.bool x.log,.bool x.mode,.bool x.done] 183)).cell? ⟨w.heap.size,5,none⟩=some (.slice eN s.stale.length eR):=(cd (a:=⟨w.heap.size,5,none⟩) (cj _ _ _ (by simp))).trans (aD rfl rfl);cases Fi:s.log.toList.isEmpty with
  | true =>
   have he1:Hid ((e:Int)=(s.Ga.length:Int)):=aa (by rw [he,Fi];simp);clear he;go_enter func190,ntmps190;go_wp2;generalize hW:World.alloc (World.alloc w _) _=W at *;have HW:=aa hW;clear hW
   go_loop [19,6,7] (fun i _ _=>∃ k:Nat,k<=s.stale.length/\i=.int .i64 k/\∀ j,j<k->bR false e s.stale j=true) (fun i _ _=>s.stale.length - (intOf i).toNat)
   case atStart=>exact ⟨0,cg _,rfl,fun j hj=>by omega⟩
   case round =>
    obtain ⟨k,hk,rfl,hall⟩:=hrel;have cE:=aa hall;clear hall
    by_cases hlt:k<s.stale.length
    ·obtain ⟨n,hn⟩:=aj s.stale k hlt
     obtain ⟨b,off,us,rfl,_,cX,ez,eE,hcv⟩:=HA.o.elem hn;obtain rfl:us=_:=eE;have q0:=(cm.o.cell (p:=⟨b,off+k*1+0,none⟩) cX).trans (hcv 0 _ rfl);rw [fp,fg] at q0;have K3:s.stale.getD k 0=n:=by simp [hn]
     have bad:Hid (bR false e s.stale k=false->dP s x=false):=aa fun h=>by
      rw [HM.o,lr];exact ⟨k,List.mem_range.2 hlt,by simp [h]⟩
     have good:Hid (bR false e s.stale k=true->∀ j,j<k+1->bR false e s.stale j=true):=aa fun h j hj=>by
      by_cases hjk:j=k
      ·exact hjk ▸ h
      ·exact cE.o j (by omega)
     have G1:Hid (bR false e s.stale k=_):=aa (bR.eq_1 false e s.stale k);rw [K3] at G1;clear K3 hcv ez hn;go_wp2;go_ret;exact ⟨ah (bad.o (by rw [G1.o];simp)).symm,cm.o⟩
    ·go_wp2
     go_ret;refine ⟨ah (Eq.symm ?_),cm.o⟩;rw [HM.o,eL];exact fun j hj=>cE.o j (by have:=List.mem_range.1 hj;omega)
  | false =>
   have he1:Hid ((e:Int)=(s.Ga.length:Int)+1):=aa (by rw [he,Fi];simp);clear he;go_enter func190,ntmps190;go_wp2;generalize hW:World.alloc (World.alloc w _) _=W at *;have HW:=aa hW;clear hW
   go_loop [19,6,7] (fun i _ _=>∃ k:Nat,k<=s.stale.length/\i=.int .i64 k/\∀ j,j<k->bR false e s.stale j=true) (fun i _ _=>s.stale.length - (intOf i).toNat)
   case atStart=>exact ⟨0,cg _,rfl,fun j hj=>by omega⟩
   case round =>
    obtain ⟨k,hk,rfl,hall⟩:=hrel;have cE:=aa hall;clear hall
    by_cases hlt:k<s.stale.length
    ·obtain ⟨n,hn⟩:=aj s.stale k hlt
     obtain ⟨b,off,us,rfl,_,cX,ez,eE,hcv⟩:=HA.o.elem hn;obtain rfl:us=_:=eE;have q0:=(cm.o.cell (p:=⟨b,off+k*1+0,none⟩) cX).trans (hcv 0 _ rfl);rw [fp,fg] at q0;have K3:s.stale.getD k 0=n:=by simp [hn]
     have bad:Hid (bR false e s.stale k=false->dP s x=false):=aa fun h=>by
      rw [HM.o,lr];exact ⟨k,List.mem_range.2 hlt,by simp [h]⟩
     have good:Hid (bR false e s.stale k=true->∀ j,j<k+1->bR false e s.stale j=true):=aa fun h j hj=>by
      by_cases hjk:j=k
      ·exact hjk ▸ h
      ·exact cE.o j (by omega)
     have G1:Hid (bR false e s.stale k=_):=aa (bR.eq_1 false e s.stale k);rw [K3] at G1;clear K3 hcv ez hn;go_wp2;go_ret;exact ⟨ah (bad.o (by rw [G1.o];simp)).symm,cm.o⟩
    ·go_wp2
     go_ret;refine ⟨ah (Eq.symm ?_),cm.o⟩;rw [HM.o,eL];exact fun j hj=>cE.o j (by have:=List.mem_range.1 hj;omega)
noncomputable def Ai (f:Func)(n:Nat):Code:=((f.body.bind (kX n)).getD .skip)
structure bN where
 tp:Option Addr
 tc:Nat
 dp:Option Addr
 dc:Nat
 vp:Option Addr
 vc:Nat
 hp:Option Addr
 hc:Nat
def uY (g:af)(a:bN):List Value:=[.string g.name,.int .u64 g.id,.int .i64 g.seq,.int .i64 g.Gd,.int .i64 g.next,.slice a.tp g.tags.length a.tc,.slice a.dp g.Gb.length a.dc,.slice a.vp g.F9.length a.vc,.slice a.hp g.history.length a.hc]
structure aY where
 Gi:Int
 Gh:Int
 Gc:Int
 Gg:Int
 tag:ByteArray
 near:ByteArray
 sep:ByteArray
structure dK (r:aY):Prop where
 l:-9223372036854775808<=r.Gi/\r.Gi<=9223372036854775807
 s:-9223372036854775808<=r.Gh/\r.Gh<=9223372036854775807
 e:-9223372036854775808<=r.Gc/\r.Gc<=9223372036854775807
 p:-9223372036854775808<=r.Gg/\r.Gg<=9223372036854775807
 t:r.tag.size<=9223372036854775807
 n:r.near.size<=9223372036854775807
 q:r.sep.size<=9223372036854775807
def FR (l:List ByteArray)(b:Nat)(w:World)(e:Ending)(w':World):Prop:=∃ v:ByteArray,e=.returned (.string v)/\v∈l/\Src w' b/\cR (fun i=>i=b) w w'
theorem qH (b cap:Nat)(p:Option Addr)(l:List ByteArray)(w:World)(h0:0<l.length)(h1:l.length<=1000)(hr:ck aF 1 (fun k=>k≠b) w [.slice p l.length cap] l)(h:Src w b) :
  Calls prog 28 #[.pointer (some ⟨b,0,none⟩),.slice p l.length cap] w (FR l b w):=by
 have HR:=aa hr;obtain ⟨p',c',e,hc1,hc2⟩:=hr.cap;injection e with e1 _ e3
 subst e1;subst e3;clear hr;go_enter func28,ntmps28
 go_wp2_with fail
 refine (bY b _ _ (by omega) (by omega) h).mono ?_;rintro e w1 ⟨v,rfl,hv1,hv2,hs,hm⟩;obtain ⟨k,rfl⟩:=D4 hv1;obtain ⟨x,hx⟩:=aj l k (by omega);obtain ⟨g,off,u,rfl,hgb,hg,_,hv,hcv⟩:=HR.o.elem hx;obtain rfl:u=[.string x]:=hv
 have OI:w1.cell? ⟨g,off+k*1,none⟩=some (.string x):=by
  rw [hm.cell hg hgb];simpa using hcv 0 _ rfl
 rw [fp] at OI;have HX:=aa hx;clear hx hcv;have IQ:k<l.length:=by omega
 go_wp2;go_ret;exact ⟨x,rfl,ct HX.o,hs,hm⟩
end Go.Proofs.YtjdfihglehfelaaGreatDoor
