/- Lemmas: SpE, ModZf, PolS. -/
import Derived.Test.YtjdfihglehfelaaGreatDoorPf30
set_option maxRecDepth 100000
set_option maxHeartbeats 32000000
set_option linter.all false
namespace Go.Proofs.YtjdfihglehfelaaGreatDoor
open Go.Proofs.Tryz
open Go.RowKit Go.Shelf
attribute [local go_sem] Oper.semAt_some
def fM (nm:ByteArray)(ext:Int)(ps:List gy):List (Int × Int):=ps.filterMap fun p=>if p.disk=nm/\0<=p.start/\p.start<ext/\0<p.len then some (p.start,min p.len (ext - p.start)) else none
theorem Bf {nm:ByteArray}{ext:Int}(ps:List gy){x:gy}(h:x.disk=nm/\0<=x.start/\x.start<ext/\0<x.len):fM nm ext (ps++[x])=fM nm ext ps++[(x.start,min x.len (ext - x.start))]:=by
 simp [fM,E0,h]
theorem jO {nm:ByteArray}{ext:Int}(ps:List gy){x:gy}(h:¬ (x.disk=nm/\0<=x.start/\x.start<ext/\0<x.len)):fM nm ext (ps++[x])=fM nm ext ps:=by
 unfold fM;rw [E0,List.filterMap_cons,bh h];simp
theorem nR (nm:ByteArray)(ext:Int)(ps:List gy):(fM nm ext ps).length<=ps.length:=List.length_filterMap_le _ _
theorem DF {nm:ByteArray}{ext:Int}{ps:List gy}:∀ p∈fM nm ext ps,0<=p.1/\0<p.2/\p.1+p.2<=ext:=by
 intro p hp;unfold fM at hp;obtain ⟨x,_,hx⟩:=List.mem_filterMap.1 hp
 by_cases c:x.disk=nm/\0<=x.start/\x.start<ext/\0<x.len
 ·rw [aw c] at hx
  injection hx with hx
  subst hx;dsimp only;omega
 ·rw [bh c] at hx
  cases hx
theorem uI {nm:ByteArray}{ext:Int}{ps:List gy}(h:ext<=1000000):dI (fM nm ext ps)=true:=by
 unfold dI;rw [eL];intro p hp;have:=DF p hp;simp [nT];omega
def xG (Gb:List az)(F9:List ay)(nm:ByteArray)(w:World)(e:Ending)(w':World):Prop :=
 match bH Gb nm with
 | none=>e=.returned (.tuple #[.slice none 0 0,.int .i64 12])/\Below w.heap.size w w'
 | some D=>zz w (Mem (fM nm D.Gc (pieces F9))) (fM nm D.Gc (pieces F9)).length e w'
theorem CG {ok:Nat->Prop}(name:ByteArray)(id seq ext nx:Int)(tp dp vp hp:Option Addr)(tl tc dc vc hl hc:Nat)(Gb:List az)(F9:List ay)(nm:ByteArray)(w:World)(hr:ck aO 7 ok w [.slice dp Gb.length dc] Gb)(hd:Gb.length<=1000)(Sl:∀ D∈Gb,D.tags.length<=1000)(vu:∀ D∈Gb,0<=D.Gc/\D.Gc<=1000000)
  (hv:ck aN 6 ok w [.slice vp F9.length vc] F9) (mb:F9.length<=1000) (ht:qx F9) (CH:∀ p∈pieces F9,0<=p.start/\p.start<=1000000) (Ji:(pieces F9).length<=100000) :
  Calls prog 107 #[.agg #[.string name,.int .u64 id,.int .i64 seq,.int .i64 ext,.int .i64 nx,.slice tp tl tc,.slice dp Gb.length dc,.slice vp F9.length vc,.slice hp hl hc],.string nm] w (xG Gb F9 nm w):=by
 refine callsIn_wide (n:=3) |>.1 ?_;refine callsIn_of_wp_marks func107 rfl trivial ?_ rfl;simp only [ntmps107,List.size_toArray,cS,gi,Nat.reduceAdd,Nat.reduceSub,Array.replicate_succ,Array.replicate_zero,List.push_toArray,List.append_toArray,List.nil_append,List.cons_append];refine wpIn_wide.2 ?_;have hB2:Below w.heap.size w ((w.alloc (.cells #[.string name,.int .u64 id,.int .i64 seq,.int .i64 ext,.int .i64 nx,.slice tp tl tc,.slice dp Gb.length dc,.slice vp F9.length vc,.slice hp hl hc] 31)).alloc (.cells #[.string nm] 9)):=((bj _ _).alloc (bk _) _).alloc (by simp) _;have hz2:((w.alloc (.cells #[.string name,.int .u64 id,.int .i64 seq,.int .i64 ext,.int .i64 nx,.slice tp tl tc,.slice dp Gb.length dc,.slice vp F9.length vc,.slice hp hl hc] 31)).alloc (.cells #[.string nm] 9)).heap.size=w.heap.size+2:=by simp
 have hg2:((w.alloc (.cells #[.string name,.int .u64 id,.int .i64 seq,.int .i64 ext,.int .i64 nx,.slice tp tl tc,.slice dp Gb.length dc,.slice vp F9.length vc,.slice hp hl hc] 31)).alloc (.cells #[.string nm] 9)).heap[w.heap.size]?=some (.cells #[.string name,.int .u64 id,.int .i64 seq,.int .i64 ext,.int .i64 nx,.slice tp tl tc,.slice dp Gb.length dc,.slice vp F9.length vc,.slice hp hl hc] 31 (0,0)):=(cj _ _ _ (by simp)).trans (b9 w _)
 have hn2:((w.alloc (.cells #[.string name,.int .u64 id,.int .i64 seq,.int .i64 ext,.int .i64 nx,.slice tp tl tc,.slice dp Gb.length dc,.slice vp F9.length vc,.slice hp hl hc] 31)).alloc (.cells #[.string nm] 9)).heap[w.heap.size+1]?=some (.cells #[.string nm] 9 (0,0)):=by
  have:=b9 (w.alloc (.cells #[.string name,.int .u64 id,.int .i64 seq,.int .i64 ext,.int .i64 nx,.slice tp tl tc,.slice dp Gb.length dc,.slice vp F9.length vc,.slice hp hl hc] 31)) (.cells #[.string nm] 9);rw [cW] at this;exact this
 have HR:=aa hr;clear hr;have HV:=aa hv;clear hv;have HT:=aa ht;clear ht;have Up:=aa Sl;clear Sl;have kj:=aa vu;clear vu;have sY:=aa CH;clear CH;have HG2:=aa hg2;clear hg2;have Nk:=aa hn2;clear hn2;have cm:=aa hB2;clear hB2;have NV:=aa hz2;clear hz2
 go_wp2_with fail
 generalize hW2:World.alloc (World.alloc w _) _=W2 at *;clear hW2;refine (vV (ok:=ok) name id seq ext nx tp dp vp hp tl tc dc F9.length vc hl hc Gb nm W2 ((ck.moves aO.moves).mv ⟨cm.o.size,fun b hb ho=>⟨ho,cm.o.block b hb⟩⟩ HR.o) hd Up.o).mono ?_;rintro e w3 ⟨hb3,hm⟩;have hg3:=(hb3.block _ (aq HG2.o)).trans HG2.o;have hn3:=(hb3.block _ (aq Nk.o)).trans Nk.o;have cJ:=aa (cm.o.trans (hb3.mono cm.o.size));have hz3:w.heap.size+2<=w3.heap.size:=by have:=hb3.size;have:=NV.o;omega
 clear hb3;unfold xG;cases hf:bH Gb nm with
 | none =>
  rw [hf] at hm;obtain rfl:=hm;clear hg3 hn3;have HBZ:=aa (cJ.o.trans ((ae w3 (.cells #[.string ⟨#[]⟩,.int .u64 0,.int .i64 0,.int .i64 0,.bool false,.bool false,.slice none 0 0] 47)).mono cJ.o.size));go_wp2;exact ⟨.tuple #[.slice none 0 0,.int .i64 12],by simp [results,Tryz.results107,go_sem],by unfold xG;rw [hf];exact ⟨rfl,HBZ.o⟩⟩
 | some D =>
  rw [hf] at hm;obtain ⟨p3,n3,c3,rfl⟩:=hm;have hb4:Below w3.heap.size w3 ((w3.alloc (.cells #[.string D.name,.int .u64 D.id,.int .i64 D.first,.int .i64 D.Gc,.bool D.closed,.bool D.missing,.slice p3 n3 c3] 47)).alloc (.cells #[.slice none 0 0] 48)):=((bj _ _).alloc (bk _) _).alloc (by simp) _;have hz4:((w3.alloc (.cells #[.string D.name,.int .u64 D.id,.int .i64 D.first,.int .i64 D.Gc,.bool D.closed,.bool D.missing,.slice p3 n3 c3] 47)).alloc (.cells #[.slice none 0 0] 48)).heap.size=w3.heap.size+2:=by simp
  have hd4:((w3.alloc (.cells #[.string D.name,.int .u64 D.id,.int .i64 D.first,.int .i64 D.Gc,.bool D.closed,.bool D.missing,.slice p3 n3 c3] 47)).alloc (.cells #[.slice none 0 0] 48)).heap[w3.heap.size]?=some (.cells #[.string D.name,.int .u64 D.id,.int .i64 D.first,.int .i64 D.Gc,.bool D.closed,.bool D.missing,.slice p3 n3 c3] 47 (0,0)):=(cj _ _ _ (by simp)).trans (b9 w3 _)
  have hl4:((w3.alloc (.cells #[.string D.name,.int .u64 D.id,.int .i64 D.first,.int .i64 D.Gc,.bool D.closed,.bool D.missing,.slice p3 n3 c3] 47)).alloc (.cells #[.slice none 0 0] 48)).heap[w3.heap.size+1]?=some (.cells #[.slice none 0 0] 48 (0,0)):=by
   have:=b9 (w3.alloc (.cells #[.string D.name,.int .u64 D.id,.int .i64 D.first,.int .i64 D.Gc,.bool D.closed,.bool D.missing,.slice p3 n3 c3] 47)) (.cells #[.slice none 0 0] 48);rw [cW] at this;exact this
  have hg4:=(hb4.block _ (aq hg3)).trans hg3;have Qn:=aa ((hb4.block _ (aq hn3)).trans hn3)
  have YQ:=cr hg4
  obtain ⟨y0,y1,y2,y3,y4,y5,y6,y7,y8⟩:=xr YQ;have eI:=aa (cJ.o.trans (hb4.mono cJ.o.size));have HD4:=aa hd4;have WC:=aa hl4;have QZ:=aa hz4;clear YQ hb4 hz4 hd4 hl4 hg4 hg3 hn3
  go_wp2_with fail
  clear y0 y1 y2 y3 y4 y5 y6 y7 y8;generalize hW4:World.alloc (World.alloc w3 _) _=W4 at *;clear hW4;refine (Ew name id seq ext nx tp dp vp hp tl tc Gb.length dc F9.length vc hl hc W4).mono ?_;rintro e w5 ⟨rfl,rfl⟩;have hb5:=ae W4 (.cells #[.string name,.int .u64 id,.int .i64 seq,.int .i64 ext,.int .i64 nx,.slice tp tl tc,.slice dp Gb.length dc,.slice vp F9.length vc,.slice hp hl hc] 31);have HG5:=aa (b9 W4 (.cells #[.string name,.int .u64 id,.int .i64 seq,.int .i64 ext,.int .i64 nx,.slice tp tl tc,.slice dp Gb.length dc,.slice vp F9.length vc,.slice hp hl hc] 31));have HD5:=aa ((hb5.block _ (aq HD4.o)).trans HD4.o);have HL5:=aa ((hb5.block _ (aq WC.o)).trans WC.o);have QS:=aa ((hb5.block _ (aq Qn.o)).trans Qn.o);have eK:=aa (eI.o.trans (hb5.mono eI.o.size));have HZ5:Hid (W4.heap.size<(W4.alloc (.cells #[.string name,.int .u64 id,.int .i64 seq,.int .i64 ext,.int .i64 nx,.slice tp tl tc,.slice dp Gb.length dc,.slice vp F9.length vc,.slice hp hl hc] 31)).heap.size):=aa (by simp);have Sm:=kj.o D (eV hf);clear hb5;go_wp2;generalize hW5:World.alloc W4 _=W5 at *;have hzz:=QZ.o;generalize Ms:W4.heap.size=Bg at *;generalize J6:w3.heap.size=Bd at *;generalize hB1:W5.heap.size=B1 at *;clear hW5 HD4 WC Qn eI QZ;have hz5:=HZ5.o;have hzb:Bd+2<=Bg:=by omega
  clear hzz J6 Ms;refine (wpIn_wide (n:=3)).1 ?_
  refine wpIn_rangeFunc_ownH (F:=Fence.wide) rfl (by omega) (gf:=200) (lb:=#[.pointer (some ⟨Bg,0,none⟩)]) rfl trivial (enters_of func200 (by kernel_rfl) rfl)
   (zh (3 - 1) w.heap.size Bg W5 vp vc F9 (by simp [World.cell?,HG5.o]) (by omega) (by omega) ((ck.moves aN.moves).mv ⟨eK.o.size,fun b hb ho=>⟨hb,eK.o.block b hb⟩⟩ HV.o) HT.o mb) JS.trans
   (fun W l o o' hl h h1 h2=>⟨belowK_b (w:=W5) (by omega) W l o o' hl h h1 h2,fun k cs t z e _=>(grownBy_putObj' W l o').block k (aq e) (fun q=>by injection q with q;subst q;rw [e] at h;injection h with h;subst h;cases h1)⟩) (bj _ _) (fun _=>rfl)
   (fun pre W=>∃ v,W.heap[Bd+1]?=some (.cells #[v] 48 (0,0))/\bM W B1 v (fM nm D.Gc pre)/\W.heap[Bd]?=some (.cells #[.string D.name,.int .u64 D.id,.int .i64 D.first,.int .i64 D.Gc,.bool D.closed,.bool D.missing,.slice p3 n3 c3] 47 (0,0))/\W.heap[w.heap.size+1]?=some (.cells #[.string nm] 9 (0,0))/\Below w.heap.size w W/\B1<=W.heap.size)
   (fun _ _ _=>False) ?own (fun _ _ _ _ _ h _ _=>h) ?init
   (fun x a' W=>∃ Bx,W.heap[Bx]?=some (.cells #[.string x.vol,.string x.disk,.int .i64 x.start,.int .i64 x.len] 214 (0,0))/\B1<=Bx/\a'=⟨#[.agg #[.string name,.int .u64 id,.int .i64 seq,.int .i64 ext,.int .i64 nx,.slice tp tl tc,.slice dp Gb.length dc,.slice vp F9.length vc,.slice hp hl hc],.string nm,.pointer (some ⟨w.heap.size,0,none⟩),.pointer (some ⟨w.heap.size+1,0,none⟩),.slice none 0 0,.int .i64 0,.pointer (some ⟨Bd,0,none⟩),.bool true,.pointer (some ⟨Bd+1,0,none⟩),.pointer (some ⟨Bx,0,none⟩),.tuple #[.agg #[.string D.name,.int .u64 D.id,.int .i64 D.first,.int .i64 D.Gc,.bool D.closed,.bool D.missing,.slice p3 n3 c3],.bool true],.agg #[.string name,.int .u64 id,.int .i64 seq,.int .i64 ext,.int .i64 nx,.slice tp tl tc,.slice dp Gb.length dc,.slice vp F9.length vc,.slice hp hl hc],.string nm,.tuple #[.agg #[.string D.name,.int .u64 D.id,.int .i64 D.first,.int .i64 D.Gc,.bool D.closed,.bool D.missing,.slice p3 n3 c3],.bool true],.agg #[.string D.name,.int .u64 D.id,.int .i64 D.first,.int .i64 D.Gc,.bool D.closed,.bool D.missing,.slice p3 n3 c3],.bool true,.bool true,.bool false,.agg #[.string name,.int .u64 id,.int .i64 seq,.int .i64 ext,.int .i64 nx,.slice tp tl tc,.slice dp Gb.length dc,.slice vp F9.length vc,.slice hp hl hc],.func (.func 200) #[] #[.pointer (some ⟨Bg,0,none⟩)],.agg #[.string x.vol,.string x.disk,.int .i64 x.start,.int .i64 x.len],undef,undef,undef,undef,undef,undef,undef,undef,undef,undef,undef,undef,undef,undef,undef,undef,undef,undef,undef,undef,undef,undef,undef,undef,undef,undef,undef,undef,undef,undef,undef,undef,undef,undef,undef,undef,undef,undef,undef],[]⟩) ?ax ?assign ?body ?done ?stop
  case own =>
   rintro pre W W' row ⟨v,h1,h2,h3,h4,h5,h6⟩ hg hr;exact ⟨v,xu hg hr h1,keepR hg hr h2,xu hg hr h3,xu hg hr h4,h5.grown hg h5.size (fun k e=>by have:=(hr k e).1;omega),cA h6 hg.size⟩
  case init=>exact ⟨.slice none 0 0,HL5.o,bM.nil _ _,HD5.o,QS.o,eK.o,by omega⟩
  case ax =>
   rintro x a' _ W W' row ⟨Bx,h1,h2,h3⟩ hg hr;exact ⟨Bx,xu hg hr h1,h2,h3⟩
  case assign =>
   rintro l pre x W K ⟨v,h1,h2,h3,h4,h5,h6⟩ hK;have HI:=aa (⟨h1,h2,h3,h4,h5,h6⟩:_/\_/\_/\_/\_/\_);clear h1 h2 h3 h4 h5;have HK:=aa hK;clear hK;simp only [FN,List.zip_toArray,List.zip_cons_cons,List.zip_nil_right,List.foldl_toArray,cF,cq,xT,List.set_cons_succ,List.set_cons_zero]
   gi_wp2
   have hI:=HI.o;have sk:=ae W (.cells #[.string x.vol,.string x.disk,.int .i64 x.start,.int .i64 x.len] 214);refine HK.o _ _ ((KeepsOthers.alloc _ _).from _) (JS.of_below sk hI.2.2.2.2.1.size) ⟨v,(sk.block _ (aq hI.1)).trans hI.1,World.ownsRow.alloc hI.2.1 _,(sk.block _ (aq hI.2.2.1)).trans hI.2.2.1,(sk.block _ (aq hI.2.2.2.1)).trans hI.2.2.2.1,hI.2.2.2.2.1.alloc hI.2.2.2.2.1.size _,cA h6 sk.size⟩ ⟨W.heap.size,b9 W _,h6,rfl⟩
  case body =>
   rintro l pre x a' W hl ⟨r,hr⟩ ⟨v,h1,h2,h3,h4,h5,h6⟩ ⟨Bx,hx,N0,rfl⟩ hlt;clear hr r;have x1:=cr hx 1 _ rfl;have x2:=cr hx 2 _ rfl;have x3:=cr hx 3 _ rfl;have d3:=cr h3 3 _ rfl;have n0:=cr h4 0 _ rfl;have l0:=cr h1 0 _ rfl
   have mA:=h5.size;have HI:=aa (⟨h1,h2,h3,h4,h5⟩:_/\_/\_/\_/\_);clear h1 h2 h3 h4 h5 hx
   by_cases c1:x.disk=nm
   ·have e1:(x.disk.toList == nm.toList)=true:=by rw [c1];simp
    by_cases c2:0<=x.start
    ·by_cases c3:x.start<D.Gc
     ·by_cases c4:0<x.len
      ·have HC:=aa (Bf (ext:=D.Gc) pre ⟨c1,c2,c3,c4⟩)
       have ac1:=Sm.1;have ac2:=Sm.2;have hw:IntKind.i64.wrap (D.Gc - x.start)=D.Gc - x.start:=dy _ (by omega);have ez:=nR nm D.Gc pre;have hlen:(fM nm D.Gc pre).length<=100000:=by omega
       clear ez;obtain ⟨i0,hi,hz0,hz1,hz2⟩:=ei DT;have Vv:=aa hi;clear hi;have Qh:=aa hz0;clear hz0;have Qi:=aa hz1;clear hz1;have N2:=aa hz2;clear hz2;have HC1:=aa c1;clear c1
       gi_wp2_with (gi_at_builtin;refine DZ ?_)
       refine aa ?_;refine wpListIn_append_own _ rfl _ _ 48 rfl B1 62 i0 _ 2 16 underlying48 Vv.o Qh.o Qi.o N2.o rfl (by decide) v (fM nm D.Gc pre).length (bU (fM nm D.Gc pre)) rfl (World.ownsRow.alloc HI.o.2.1 _) ⟨W.heap.size,0,none⟩ 1 1 [.int .i64 x.start,.int .i64 (min x.len (D.Gc - x.start))] rfl rfl (fun j u hu=>by rw [iz,eJ];exact aD rfl (by simpa using hu)) (by simp [Value.oneCell']) (by unfold maxLen;omega) (by omega) (by simp only [cW];omega) ?_;intro v' w1 hown' hgrow _;obtain ⟨g',cap',rfl⟩:=ownsRow_succ hown';obtain ⟨i1,i2,i3,i4,i5⟩:=HI.o;have hA:=ae W (.cells #[.int .i64 x.start,.int .i64 (min x.len (D.Gc - x.start))] 62)
       have Qs:∀ k,v.ownBlock=some k->B1<=k/\∃ cur,W.heap[k]?=some (.cells cur 62 (0,0)):=fun k e=>⟨(fh i2 k e).1,by
        rcases i2.2 with ⟨rfl,_⟩ | ⟨g,cap,cur,rfl,_,Jj,_⟩
        ·cases e
        ·obtain rfl:g=k:=by injection e
         exact ⟨cur,Jj⟩⟩
       have kb:∀ k,k<W.heap.size->v.ownBlock≠some k->w1.heap[k]?=W.heap[k]?:=fun k hk hn=>(hgrow.block k (cC hk hA.size) (fun e=>hn e.symm)).trans (hA.block k hk);have Uq:w1.heap[Bd+1]?=some (.cells #[v] 48 (0,0)):=(kb _ (aq i1) (fun e=>by have:=(Qs _ e).1;omega)).trans i1;have l1:=cr Uq 0 _ rfl
       have lf:w1.frozen? ⟨Bd+1,0,none⟩=false:=by simp [World.frozen?,Uq]
       have hw1:W.heap.size<=w1.heap.size:=cA hA.size hgrow.size;have PD:Below w.heap.size W w1:=((bj _ W).alloc mA _).grown hgrow (cA mA hA.size) (fun k e=>by have:=(Qs k e).1;omega)
       have HST:Hid (∀ u:Value,KeepsFrom W5.heap.size W (w1.setCell ⟨Bd+1,0,none⟩ u)/\JS w.heap.size W (w1.setCell ⟨Bd+1,0,none⟩ u)/\(w1.setCell ⟨Bd+1,0,none⟩ u).heap[Bd+1]?=some (.cells #[u] 48 (0,0))/\∀ k,k≠Bd+1->(w1.setCell ⟨Bd+1,0,none⟩ u).heap[k]?=w1.heap[k]?):=aa fun u=>by
        have ks:∀ k,k≠Bd+1->(w1.setCell ⟨Bd+1,0,none⟩ u).heap[k]?=w1.heap[k]?:=fun k e=>bw _ _ _ _ e;have hs:(w1.setCell ⟨Bd+1,0,none⟩ u).heap.size=w1.heap.size:=by simp [World.setCell]
        refine ⟨⟨by omega,fun k o hk ho hc=>?_⟩,⟨PD.setCell (p:=⟨Bd+1,0,none⟩) (by show w.heap.size<=Bd+1;omega) u,fun k cs t z e ht=>?_⟩,block_setCell (i:=0) u Uq,ks⟩
        ·have IQ:=(Array.getElem?_eq_some_iff.1 ho).1
         have hn1:k≠Bd+1:=fun e=>by
          rw [e,i1] at ho;injection ho with ho
          subst ho;cases hc
         have hn2:v.ownBlock≠some k:=fun e=>by
          obtain ⟨_,cur,q⟩:=Qs k e;rw [q] at ho;injection ho with ho
          subst ho;cases hc
         exact (ks k hn1).trans ((kb k IQ hn2).trans ho)
        ·have hn1:k≠Bd+1:=fun e'=>by
          rw [e',i1] at e;injection e with e
          injection e with _ e _
          subst e;cases ht
         have hn2:v.ownBlock≠some k:=fun e'=>by
          obtain ⟨_,cur,q⟩:=Qs k e';rw [q] at e;injection e with e
          injection e with _ e _
          subst e;cases ht
         exact (ks k hn1).trans (kb k (aq e) hn2)
       have HOW:=aa hown';clear hown';have ac3:=aa PD;clear PD;have YR:=aa kb;clear kb;have YS:=aa Qs;clear Qs;clear hgrow hA Uq
       gi_wp2
       obtain ⟨s1,s2,s3,s4⟩:=HST.o (.slice (some ⟨g',0,none⟩) ((fM nm D.Gc pre).length+1) cap');refine ⟨s1,s2,_,s3,?_,(s4 _ (by omega)).trans ((YR.o _ (aq i3) (fun e=>by have:=(YS.o _ e).1;omega)).trans i3),(s4 _ (by omega)).trans ((YR.o _ (aq i4) (fun e=>by have:=(YS.o _ e).1;omega)).trans i4),i5.trans s2.1,cA h6 s2.1.size⟩;rw [HC.o];unfold bM;rw [gJ,cD];exact aC HOW.o fun k e=>s4 k (by have:=(fh HOW.o k e).1;omega)
      ·gi_wp2
       exact ⟨KeepsFrom.refl _ _,⟨bj _ _,fun _ _ _ _ _ _=>rfl⟩,v,HI.o.1,by rw [jO pre (fun q=>by have:=q.2.2.2;omega)];exact HI.o.2.1,HI.o.2.2.1,HI.o.2.2.2.1,HI.o.2.2.2.2,h6⟩
     ·gi_wp2
      exact ⟨KeepsFrom.refl _ _,⟨bj _ _,fun _ _ _ _ _ _=>rfl⟩,v,HI.o.1,by rw [jO pre (fun q=>by have:=q.2.2.1;omega)];exact HI.o.2.1,HI.o.2.2.1,HI.o.2.2.2.1,HI.o.2.2.2.2,h6⟩
    ·gi_wp2
     exact ⟨KeepsFrom.refl _ _,⟨bj _ _,fun _ _ _ _ _ _=>rfl⟩,v,HI.o.1,by rw [jO pre (fun q=>by have:=q.2.1;omega)];exact HI.o.2.1,HI.o.2.2.1,HI.o.2.2.2.1,HI.o.2.2.2.2,h6⟩
   ·have e1:=jI c1
    gi_wp2
    exact ⟨KeepsFrom.refl _ _,⟨bj _ _,fun _ _ _ _ _ _=>rfl⟩,v,HI.o.1,by rw [jO pre (fun q=>c1 q.1)];exact HI.o.2.1,HI.o.2.2.1,HI.o.2.2.2.1,HI.o.2.2.2.2,h6⟩
  case done =>
   rintro Dd xs W hD rfl ⟨v,h1,h2,h3,h4,h5,h6⟩ hK;have l0:=cr h1 0 _ rfl
   have ez:=nR nm D.Gc (pieces F9);have hKl:=(Array.getElem?_eq_some_iff.1 hK).1;have HK:=aa hK;clear hK;have H5:=aa h5;clear h5;have H2:=aa h2;clear h2;clear h1 h3 h4
   go_wp2_with fail
   refine (tJ (fM nm D.Gc (pieces F9)) v W H2.o.rd (uI Sm.2) (by omega)).mono ?_;rintro e w7 ⟨v7,x7,rfl,ho7,Ur,hl7,hb7⟩;have hK7:=(hb7.block Dd hKl).trans HK.o;have HO7:=aa ho7;clear ho7;have wk:=aa hb7;clear hb7;have Qm:=aa Ur;clear Ur;go_wp2;refine ⟨by simp,.inl ⟨_,_,rfl,run_takeDeferred hK7,?_⟩⟩;refine ⟨.tuple #[v7,.int .i64 0],by simp [results,Tryz.results107,go_sem],?_⟩;unfold xG;rw [hf];have hw7:=wk.o.size;have YT:=H5.o.size;exact ⟨v7,x7,rfl,ownsRow_putObj (bM.mono HO7.o YT) _ hK7 rfl,Qm.o,hl7,(H5.o.trans (wk.o.mono YT)).trans (belowK_b (w:=w) (bk _) w7 Dd _ _ (by omega) hK7 rfl rfl)⟩
  case stop =>
   rintro D c pre W _ _ h _;exact h.elim
end Go.Proofs.YtjdfihglehfelaaGreatDoor
namespace Go.Proofs.YtjdfihglehfelaaGreatDoor
open Go.Proofs.Tryz
open Go.RowKit
def zR (Gb:List az)(F9:List ay)(nm:ByteArray)(w:World)(e:Ending)(w':World):Prop :=
 match bH Gb nm with
 | none=>e=.returned (.tuple #[.slice none 0 0,.int .i64 12])/\Below w.heap.size w w'
 | some D=>vD w (fun n=>(0<=n/\n<D.Gc)/\¬ Mem (fM nm D.Gc (pieces F9)) n) (2*((pieces F9).length+1)) e w'
theorem Di {ok:Nat->Prop}(name:ByteArray)(id seq ext nx:Int)(tp dp vp hp:Option Addr)(tl tc dc vc hl hc:Nat)(Gb:List az)(F9:List ay)(nm:ByteArray)(w:World)(hr:ck aO 7 ok w [.slice dp Gb.length dc] Gb)(hd:Gb.length<=1000)(Sl:∀ D∈Gb,D.tags.length<=1000)(vu:∀ D∈Gb,0<=D.Gc/\D.Gc<=1000000)
  (hv:ck aN 6 ok w [.slice vp F9.length vc] F9) (mb:F9.length<=1000) (ht:qx F9) (CH:∀ p∈pieces F9,0<=p.start/\p.start<=1000000) (Ji:(pieces F9).length<=100000) :
  Calls prog 57 #[.agg #[.string name,.int .u64 id,.int .i64 seq,.int .i64 ext,.int .i64 nx,.slice tp tl tc,.slice dp Gb.length dc,.slice vp F9.length vc,.slice hp hl hc],.string nm] w (zR Gb F9 nm w):=by
 have hb1:=ae w (.cells #[.string name,.int .u64 id,.int .i64 seq,.int .i64 ext,.int .i64 nx,.slice tp tl tc,.slice dp Gb.length dc,.slice vp F9.length vc,.slice hp hl hc] 31);have hg1:=b9 w (.cells #[.string name,.int .u64 id,.int .i64 seq,.int .i64 ext,.int .i64 nx,.slice tp tl tc,.slice dp Gb.length dc,.slice vp F9.length vc,.slice hp hl hc] 31);have HR:=aa hr;clear hr;have HV:=aa hv;clear hv;have HT:=aa ht;clear ht;have Up:=aa Sl;clear Sl;have kj:=aa vu;clear vu;have sY:=aa CH;clear CH;have HG1:=aa hg1;clear hg1;have cU:=aa hb1;clear hb1;go_enter func57,ntmps57
 go_wp2_with fail
 generalize hW1:World.alloc w _=W1 at *;clear hW1;refine (CG (ok:=ok) name id seq ext nx tp dp vp hp tl tc dc vc hl hc Gb F9 nm W1 ((ck.moves aO.moves).mv ⟨cU.o.size,fun b hb ho=>⟨ho,cU.o.block b hb⟩⟩ HR.o) hd Up.o kj.o ((ck.moves aN.moves).mv ⟨cU.o.size,fun b hb ho=>⟨ho,cU.o.block b hb⟩⟩ HV.o) mb HT.o sY.o Ji).mono ?_;rintro e w2 hu;unfold xG at hu;cases hf:bH Gb nm with
 | none =>
  rw [hf] at hu;obtain ⟨rfl,hb2⟩:=hu;have cm:=aa (cU.o.trans (hb2.mono cU.o.size));clear hb2;go_wp2;refine eC (v:=.tuple #[.slice none 0 0,.int .i64 12]) (by simp [results,Tryz.results57,go_sem]) rfl ?_;unfold zR;rw [hf];exact ⟨rfl,cm.o⟩
 | some D =>
  rw [hf] at hu;obtain ⟨v2,x2,rfl,ho2,Sn,hl2,hb2⟩:=hu;have Sm:=kj.o D (eV hf);have hg2:=(hb2.block _ (aq HG1.o)).trans HG1.o;have cm:=aa (cU.o.trans (hb2.mono cU.o.size));have HO2:=aa ho2;clear ho2;have Qm:=aa Sn;clear Sn;clear hb2
  have gL:=cr hg2
  obtain ⟨y0,y1,y2,y3,y4,y5,y6,y7,y8⟩:=xr gL;clear gL hg2
  go_wp2_with fail
  clear y0 y1 y2 y3 y4 y5 y6 y7 y8;refine (vV (ok:=ok) name id seq ext nx tp dp vp hp tl tc dc F9.length vc hl hc Gb nm w2 ((ck.moves aO.moves).mv ⟨cm.o.size,fun b hb ho=>⟨ho,cm.o.block b hb⟩⟩ HR.o) hd Up.o).mono ?_;rintro e w3 ⟨hb3,hm⟩;rw [hf] at hm;obtain ⟨p3,n3,c3,rfl⟩:=hm;have cJ:=aa (cm.o.trans (hb3.mono cm.o.size));have HO3:=aa (bM.below HO2.o hb3);clear hb3;have hb4:Below w3.heap.size w3 ((w3.alloc (.cells #[.string D.name,.int .u64 D.id,.int .i64 D.first,.int .i64 D.Gc,.bool D.closed,.bool D.missing,.slice p3 n3 c3] 47)).alloc (.cells #[.int .i64 0,.int .i64 D.Gc] 62)):=((bj _ _).alloc (bk _) _).alloc (by simp) _
  have hr4:((w3.alloc (.cells #[.string D.name,.int .u64 D.id,.int .i64 D.first,.int .i64 D.Gc,.bool D.closed,.bool D.missing,.slice p3 n3 c3] 47)).alloc (.cells #[.int .i64 0,.int .i64 D.Gc] 62)).heap[w3.heap.size+1]?=some (.cells #[.int .i64 0,.int .i64 D.Gc] 62 (0,0)):=by
   have:=b9 (w3.alloc (.cells #[.string D.name,.int .u64 D.id,.int .i64 D.first,.int .i64 D.Gc,.bool D.closed,.bool D.missing,.slice p3 n3 c3] 47)) (.cells #[.int .i64 0,.int .i64 D.Gc] 62);rw [cW] at this;exact this
  have WD:=aa hr4;clear hr4;have eI:=aa (cJ.o.trans (hb4.mono cJ.o.size));have HO4:=aa (bM.below HO3.o hb4);clear hb4;have hx2:x2.length<=(pieces F9).length:=cA hl2 (nR _ _ _)
  go_wp2_with fail
  generalize hW4:World.alloc (World.alloc w3 _) _=W4 at *;clear hW4
  have YU:xo W4 (.slice (some ⟨w3.heap.size+1,0,none⟩) 1 1) [(0,D.Gc)]:=⟨_,1,rfl,by simp,by omega,fun _=>⟨_,0,rfl,aq WD.o,fun i p hp=>by
   match i,hp with
   | 0,hp =>
    obtain rfl:(0,D.Gc)=p:=by simpa using hp
    exact ⟨cr WD.o _ _ rfl,cr WD.o _ _ rfl⟩⟩⟩
  refine (DK [(0,D.Gc)] x2 _ v2 W4 YU HO4.o.rd (by simp [dI,nT];omega) (jC Qm.o (uI Sm.2)) (by simp) (by omega)).mono ?_;rintro e w5 ⟨v5,x5,rfl,ho5,Sp,hv5,hl5,hb5⟩;have HO5:=aa ho5;clear ho5;have QS:=aa Sp;clear Sp;have HV5:=aa hv5;clear hv5;have eK:=aa hb5;clear hb5;clear YU;go_wp2;refine eC (v:=.tuple #[v5,.int .i64 0]) (by simp [results,Tryz.results57,go_sem]) rfl ?_;unfold zR;rw [hf];have YV:=eI.o.size;refine ⟨v5,x5,rfl,bM.mono HO5.o YV,QS.o.congr (fun n=>?_),HV5.o,?_,eI.o.trans (eK.o.mono YV)⟩
  ·have hm:kO x2 n=true↔Mem (fM nm D.Gc (pieces F9)) n:=(fe x2 n).trans (Qm.o.2 n)
   have h0:kO [(0,D.Gc)] n=true↔(0<=n/\n<D.Gc):=by simp [kO]
   simp only [cM,eh,tz,h0];rw [<- hm,Bool.not_eq_true]
  ·simp only [cS,gi] at hl5
   omega
open Go.Maps Go.Shelf
theorem wK:∀ {l:List (ByteArray × Int)},(oW l).2=0->∀ x∈l,x.2=0
 | [],_,x,hx=>by cases hx
 | r :: l,h,x,hx=>by
  unfold oW at h;split at h
  ·rename_i hr
   rcases List.mem_cons.1 hx with rfl | hx
   ·exact hr
   ·exact wK h x hx
  ·rename_i hr
   exact absurd h hr
variable {g:af}
theorem Dg (h:(pM g).2=0):(dZ g).2=0/\(dw g).2=0/\(dJ g).2=0/\(iP g).2=0/\(mY g).2=0/\(qG g).2=0/\(pE g).2=0/\(rY g).2=0:=by
 have:=wK h;exact ⟨this _ (by simp),this _ (by simp),this _ (by simp),this _ (by simp),this _ (by simp),this _ (by simp),this _ (by simp),this _ (by simp)⟩
theorem Au {l:List ByteArray}(h:eP l=0):l.length<=8:=by
 unfold eP at h;split at h
 ·cases h
 ·omega
theorem zy (h:(dw g).2=0):∀ d∈g.Gb,d.tags.length<=8:=fun d hd=>by
 obtain ⟨j,hj⟩:=fc hd;have:=ll (i:=0) h j d hj;rw [eJ] at this;unfold pg at this;split at this
 ·cases this
 ·split at this
  ·cases this
  ·split at this
   ·cases this
   ·exact Au this
theorem qQ {ext:Int}{s:aB}{st:Int}(h:bJ ext s st=true):fP s->∀ a∈s.Ga,a.vol=false:=by
 intro ho a ha;cases hs:shapeOf s.kind with
 | none=>rw [jT hs] at h;cases h
 | some x =>
  have hx:x.F9=false:=by
   rcases ho with q | q | q <;> (rw [q] at hs;cases hs;rfl)
  rw [jP hs] at h;simp only [eh,fk] at h;have h5:=h.1.1.1.1.1.1.1.1.1.2;have:=List.all_eq_true.1 h5 a ha;unfold bT at this;rw [hx] at this;simp only [eh] at this;simpa using this.1
theorem lY {α β:Type}(f:α->List β)(m:Nat):∀ l:List α,(∀ x∈l,(f x).length<=m)->(l.flatMap f).length<=l.length*m
 | [],_=>by simp
 | x :: l,h=>by
  have h1:=h x (cG ..);have h2:=lY f m l fun y hy=>h y (kn _ hy);rw [lB,cD,cS,ie];omega
theorem Cb (s:aB):(rQ s).length<=s.Ga.length+2:=by
 unfold rQ;rw [cD,cD,fW];have:=tk (fun a:aR=>a.vol) s.Ga;split <;> split <;> simp <;> omega
theorem rP:∀ {l:List az} {i:Nat} {D:az},(l.map (·.name)).Nodup->l[i]?=some D->bH l D.name=some D
 | [],_,_,_,h=>by cases h
 | x :: l,i,D,hn,h=>by
  rw [iu,List.nodup_cons] at hn;unfold bH;rw [List.find?_cons]
  match i,h with
  | 0,h =>
   obtain rfl:x=D:=by simpa using h
   simp
  | i+1,h =>
   have h':l[i]?=some D:=by simpa using h
   have:¬ x.name=D.name:=fun e=>hn.1 (e ▸ List.mem_map.2 ⟨D,ct h',rfl⟩);rw [cN this];exact rP hn.2 h'
structure E9 (g:af):Prop where
 nd:rT g
 dl:g.Gb.length<=8
 dt:∀ d∈g.Gb,d.tags.length<=8
 de:∀ d∈g.Gb,0<=d.Gc/\d.Gc<=4096
 df:∀ (i:Nat) (D:az),g.Gb[i]?=some D->bH g.Gb D.name=some D
 vl:g.F9.length<=32
 tm:qx g.F9
 ps:∀ p∈pieces g.F9,0<=p.start/\p.start<=4096
 pn:(pieces g.F9).length<=12288
 a6:∀ v∈g.F9,∀ s∈v.Gf,s.Ga.length<=6
theorem Fb (hi:NL g)(h:(pM g).2=0):E9 g:=by
 obtain ⟨h1,h2,h3,h4,h5,-,-,-⟩:=Dg h;obtain ⟨r1,r2⟩:=iT h1;have hs:=mZ h4;have hv:=nH h3;have hd:=nG h2
 have vu:∀ d∈g.Gb,0<=d.Gc/\d.Gc<=4096:=fun d hd'=>by
  have:=(hd.2 d hd').1;unfold jQ at this;omega
 have yq:∀ v∈g.F9,∀ s∈v.Gf,s.Ga.length<=6:=fun v hv' s hs'=>(hs v hv' s hs').fm.ar
 have hpc:∀ v∈g.F9,(aW v).length<=384:=fun v hv'=>by
  have h0:=(hv v hv').2.2.2
  have h6:=lY (aK v.name) 6 v.Gf fun s hs'=>by
   have:=yq v hv' s hs';unfold aK;split
   ·rw [fW];exact this
   ·simp
  have:v.Gf.length*6<=64*6:=tA _ h0;unfold aW;omega
 refine ⟨⟨⟨hi.sz,fun v hv'=>by have:=(hv v hv').2.1;unfold maxLen;omega,fun v hv'=>?_,fun v hv' x hx=>?_,by have:=r2.2.1;omega⟩,fun d hd'=>?_,by have:=r2.1;omega,fun v hv'=>?_,fun v hv' s hs' a ha=>?_⟩,r2.1,zy h2,vu,fun i D hD=>rP hd.1 hD,r2.2.1,fun v hv'=>⟨by have:=(hv v hv').2.2.2;omega,fun s hs'=>?_⟩,fun p hp=>?_,?_,yq⟩
 ·have h0:=(hv v hv').2.2.2
  have h6:=lY rQ 8 v.Gf fun s hs'=>by have:=yq v hv' s hs';have:=Cb s;omega
  have:v.Gf.length*8<=64*8:=tA _ h0;unfold kY;omega
 ·obtain ⟨s,hs',hx⟩:=List.mem_flatMap.1 hx
  obtain ⟨m1,m2,m3,m4⟩:=hi.st v hv' s hs';unfold maxLen;unfold rQ at hx;rcases List.mem_append.1 hx with hx | hx
  ·rcases List.mem_append.1 hx with hx | hx
   ·obtain ⟨a,ha,rfl⟩:=List.mem_map.1 hx
    exact m3 a ((List.mem_filter.1 ha).1)
   ·split at hx
    ·cases hx
    ·obtain rfl:=List.mem_singleton.1 hx
     exact m1
  ·split at hx
   ·cases hx
   ·obtain rfl:=List.mem_singleton.1 hx
    exact m2
 ·have:=oo ((hd.2 d hd').2)
  unfold maxLen;omega
 ·have h0:=(hv v hv').2.2.2
  have h6:=lY (fun s:aB=>s.Ga) 6 v.Gf fun s hs'=>yq v hv' s hs';have:v.Gf.length*6<=64*6:=tA _ h0;unfold bV;omega
 ·unfold maxLen
  exact (hi.st v hv' s hs').2.2.1 a ha
 ·have hf:=(hs v hv' s hs').fm
  have a1:=hf.l0;have a2:=hf.l1;have a3:=hf.ar;obtain ⟨st,hst⟩:=qP h4 v hv' s hs';exact ⟨by omega,by omega,qQ hst⟩
 ·obtain ⟨v,hv',hp⟩:=List.mem_flatMap.1 hp
  obtain ⟨s,hs',hp⟩:=List.mem_flatMap.1 hp;obtain ⟨st,hst⟩:=qP h4 v hv' s hs';have hr:=zZ (Dh h5 v hv' s hs');unfold aK at hp;split at hp
  ·rename_i ho
   obtain ⟨a,ha,rfl⟩:=List.mem_map.1 hp;have pS:=qQ hst ho a ha;have e2:=List.all_eq_true.1 hr.2.1 a ha;unfold fI at e2;have e1:=hr.1;unfold jw at e1;rw [eh,eL] at e1;have e3:=e1.1 a ha;rw [pS,nj] at e2 e3;obtain ⟨d,hd'⟩:=Option.isSome_iff_exists.1 e3;rw [hd'] at e2;simp only [eh,fk,Option.getD_some] at e2;have:=vu d (eV hd');simp only [aJ];omega
  ·cases hp
 ·have h6:=lY aW 384 g.F9 hpc
  have:=r2.2.1;have:g.F9.length*384<=32*384:=tA _ (by omega);unfold pieces;omega
end Go.Proofs.YtjdfihglehfelaaGreatDoor
namespace Go.Proofs.YtjdfihglehfelaaGreatDoor
open Go.Proofs.Tryz
open Go.RowKit Go.Maps Go.Shelf
noncomputable def gF (g:af)(r:aY):List ByteArray:=if r.near.toList.isEmpty then [] else sP g r.near
def kR (g:af)(l:List ByteArray):List ByteArray:=l.flatMap fun nm=>((bH g.Gb nm).getD gT).tags
def jV (d:az):Bool:=!d.closed&&!d.missing
def jG (tag:ByteArray)(d:az):Bool:=tag.toList.isEmpty||bI d.tags tag
def nN (near:List ByteArray)(p:Int)(d:az):Bool:=!(p == 2)||bI near d.name
def vE (near tags:List ByteArray)(p:Int)(d:az):Bool:=!(p == 3)||(bI near d.name||d.tags.any (bI tags))
def iD (near tags:List ByteArray)(r:aY)(d:az):Bool:=jV d&&(jG r.tag d&&(nN near r.Gg d&&vE near tags r.Gg d))
noncomputable def nD (g:af)(r:aY)(d:az):Bool:=iD (gF g r) (kR g (gF g r)) r d
def xy (g:af)(d:az)(n:Int):Prop:=(0<=n/\n<d.Gc)/\¬ Mem (fM d.name d.Gc (pieces g.F9)) n
def qN (s:aB):List (ByteArray × Int):=s.Ga.map fun a=>(a.on,a.start+iB s.kind s.length s.Ga.length)
def oZ (l:List aB):List (ByteArray × Int):=match l.getLast? with
 | some s=>if s.kind=1\/s.kind=2 then qN s else []
 | none=>[]
def jE (g:af)(nm:ByteArray):List (ByteArray × Int):=oZ ((aM g.F9 nm).getD eY).Gf
def su (nm:ByteArray)(e:ByteArray × Int)(x:List (Int × Int)):List (Int × Int):=x.filterMap fun r=>if e.1=nm/\r.1<=e.2/\e.2<r.1+r.2 then some (e.2,r.1+r.2 - e.2) else none
def mQ (ends:List (ByteArray × Int))(nm:ByteArray)(x:List (Int × Int)):List (Int × Int):=ends.flatMap fun e=>su nm e x
def uM (r:aY):Bool:=r.Gg == 1&&!r.near.toList.isEmpty
def kI (g:af)(r:aY)(d:az)(n:Int):Prop:=nD g r d=true/\if uM r=true then ∃ x,iE x (xy g d)/\Mem (mQ (jE g r.near) d.name x) n else xy g d n
theorem CY {nm:ByteArray}{e:ByteArray × Int}{x:List (Int × Int)}{p:Int × Int}(h:p∈su nm e x):e.1=nm/\p.1=e.2/\∃ r∈x,r.1<=e.2/\e.2<r.1+r.2/\p.2=r.1+r.2 - e.2:=by
 obtain ⟨r,hr,hp⟩:=List.mem_filterMap.1 h;split at hp
 ·rename_i c
  injection hp with hp
  subst hp;exact ⟨c.1,rfl,r,hr,c.2.1,c.2.2,rfl⟩
 ·cases hp
theorem Dl {ends:List (ByteArray × Int)}{nm:ByteArray}{x:List (Int × Int)}{p:Int × Int}(h:p∈mQ ends nm x):∃ e∈ends,e.1=nm/\p.1=e.2/\∃ r∈x,r.1<=e.2/\e.2<r.1+r.2/\p.2=r.1+r.2 - e.2:=by
 obtain ⟨e,he,hp⟩:=List.mem_flatMap.1 h;exact ⟨e,he,CY hp⟩
theorem Iq {ends:List (ByteArray × Int)}{nm:ByteArray}{x:List (Int × Int)}{n:Int}(h:Mem (mQ ends nm x) n):Mem x n:=by
 obtain ⟨p,hp,h1,h2⟩:=h;obtain ⟨e,-,-,h3,r,hr,h4,h5,h6⟩:=Dl hp;exact ⟨r,hr,by omega,by omega⟩
theorem xS {ends:List (ByteArray × Int)}{nm:ByteArray}{x:List (Int × Int)}(h:∀ p∈x,0<=p.1/\1<=p.2/\p.1+p.2<=1073741824):dI (mQ ends nm x)=true:=by
 unfold dI;rw [eL];intro p hp;obtain ⟨e,-,-,h3,r,hr,h4,h5,h6⟩:=Dl hp;have:=h r hr;simp only [nT,eh,fk];omega
theorem wT (nm:ByteArray)(e:ByteArray × Int)(x:List (Int × Int)):(su nm e x).length<=x.length:=List.length_filterMap_le _ _
theorem Dj (ends:List (ByteArray × Int))(nm:ByteArray)(x:List (Int × Int)):(mQ ends nm x).length<=ends.length*x.length:=lY _ _ _ fun e _=>wT nm e x
theorem Cc (s:aB):(qN s).length<=s.Ga.length:=by
 unfold qN;rw [fW];exact bk _
theorem mem_of_getLast? {α:Type}:∀ {l:List α} {x:α},l.getLast?=some x->x∈l
 | [],_,h=>by cases h
 | a :: l,x,h=>by
  rw [List.getLast?_eq_getElem?] at h;exact ct h
theorem Bu {l:List aB}{m:Nat}(h:∀ s∈l,s.Ga.length<=m):(oZ l).length<=m:=by
 unfold oZ;split
 ·rename_i s hs
  split
  ·exact cA (Cc s) (h s (mem_of_getLast? hs))
  ·simp
 ·simp
theorem GG {g:af}{r:aY}{d:az}{n:Int}(h:kI g r d n):xy g d n:=by
 obtain ⟨-,h⟩:=h;split at h
 ·obtain ⟨x,hx,hm⟩:=h
  exact (hx.2 n).1 (Iq hm)
 ·exact h
def aY.pol (r:aY)(p:Int):aY:={ r with Gg:=p }
theorem GZ {g:af}{r:aY}{d:az}(h:nD g r d=true):nD g (r.pol 4) d=true:=by
 unfold nD iD at h ⊢;simp only [eh] at h ⊢;exact ⟨h.1,h.2.1,by simp [nN,aY.pol],by simp [vE,aY.pol]⟩
theorem GY {g:af}{r:aY}{d:az}{n:Int}(h:kI g r d n):kI g (r.pol 4) d n :=
 ⟨GZ h.1,by rw [bh (by simp [uM,aY.pol])];exact GG h⟩
theorem Hf {g:af}{r:aY}(h:yZ g r=0):yZ g (r.pol 4)=0:=by
 unfold yZ at h ⊢;have e1:Dr (r.pol 4)=Dr r:=rfl;have e3:(eu (r.pol 4).tag&&eu (r.pol 4).sep)=(eu r.tag&&eu r.sep):=rfl;have e4:Ek (r.pol 4).Gg 5=true:=rfl;rw [e1,e3,e4];split at h
 ·cases h
 ·rename_i h1
  split at h
  ·cases h
  ·split at h
   ·cases h
   ·rename_i h3
    have h3':xM g (r.pol 4)=true:=by
     have h3:xM g r=true:=by simpa using h3
     unfold xM at h3 ⊢;split at h3
     ·rename_i hn
      rw [aw (show (r.pol 4).near.toList.isEmpty=true from hn)];simp [OC,aY.pol]
     ·rename_i hn
      rw [bh (show ¬ (r.pol 4).near.toList.isEmpty=true from hn)];exact h3
    rw [bh h1,bh (by simp),h3',bh (by simp)];exact h
theorem G7 {g:af}{r:aY}(h:kP g r=0):kP g (r.pol 4)=0:=by
 unfold kP at h ⊢;split at h
 ·rename_i hm
  rw [aw hm];exact Hf h
 ·rename_i hm
  exact absurd h hm
theorem D6 {g:af}{r:aY}(h:kP g r=0):(pM g).2=0/\yZ g r=0:=by
 unfold kP at h;split at h
 ·rename_i hm
  exact ⟨hm,h⟩
 ·rename_i hm
  exact absurd h hm
end Go.Proofs.YtjdfihglehfelaaGreatDoor
