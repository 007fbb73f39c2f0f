/- Lemmas: SpE, ModZf, PolS. -/
import Derived.Test.YtjdfihglehfelaaGreatDoorPk31
set_option maxRecDepth 100000
set_option maxHeartbeats 32000000
set_option linter.all false
namespace Go.Proofs.YtjdfihglehfelaaGreatDoor
open Go.RowKit Go.Shelf
attribute [local go_sem] Oper.semAt_some
def fM (nm:ByteArray)(ext:Int)(ps:List gy):List (Int × Int):=ps.filterMap fun p=>if p.disk=nm∧0≤p.start∧p.start<ext∧0<p.len then some (p.start,min p.len (ext - p.start)) else none
theorem Bf {nm:ByteArray}{ext:Int}(ps:List gy){x:gy}(h:x.disk=nm∧0≤x.start∧x.start<ext∧0<x.len):fM nm ext (ps++[x])=fM nm ext ps++[(x.start,min x.len (ext - x.start))]:=by
 simp [fM,List.filterMap_append,h]
theorem jO {nm:ByteArray}{ext:Int}(ps:List gy){x:gy}(h:¬ (x.disk=nm∧0≤x.start∧x.start<ext∧0<x.len)):fM nm ext (ps++[x])=fM nm ext ps:=by
 unfold fM;rw [List.filterMap_append,List.filterMap_cons,if_neg h];simp
theorem nR (nm:ByteArray)(ext:Int)(ps:List gy):(fM nm ext ps).length≤ps.length:=List.length_filterMap_le _ _
theorem DF {nm:ByteArray}{ext:Int}{ps:List gy}:∀ p∈fM nm ext ps,0≤p.1∧0<p.2∧p.1+p.2≤ext:=by
 intro p hp;unfold fM at hp;obtain ⟨x,_,hx⟩:=List.mem_filterMap.1 hp
 by_cases c:x.disk=nm∧0≤x.start∧x.start<ext∧0<x.len
 ·rw [if_pos c] at hx
  injection hx with hx
  subst hx;dsimp only;omega
 ·rw [if_neg c] at hx
  cases hx
theorem uI {nm:ByteArray}{ext:Int}{ps:List gy}(h:ext≤1000000):dI (fM nm ext ps)=true:=by
 unfold dI;rw [List.all_eq_true];intro p hp;have:=DF p hp;simp [nT];omega
def xG (Gb:List az)(F9:List ay)(nm:ByteArray)(w:World)(e:Ending)(w':World):Prop :=
 match bH Gb nm with
 | none=>e=.returned (.tuple #[.slice none 0 0,.int .i64 12])∧Below w.heap.size w w'
 | some D=>zz w (Mem (fM nm D.Gc (pieces F9))) (fM nm D.Gc (pieces F9)).length e w'
theorem CG {ok:Nat→Prop}(name:ByteArray)(id seq ext nx:Int)(tp dp vp hp:Option Addr)(tl tc dc vc hl hc:Nat)(Gb:List az)(F9:List ay)(nm:ByteArray)(w:World)(hr:RdS aO 7 ok w [.slice dp Gb.length dc] Gb)(hd:Gb.length≤1000)(htg:∀ D∈Gb,D.tags.length≤1000)(hde:∀ D∈Gb,0≤D.Gc∧D.Gc≤1000000)
  (hv:RdS aN 6 ok w [.slice vp F9.length vc] F9) (hvl:F9.length≤1000) (ht:qx F9) (hps:∀ p∈pieces F9,0≤p.start∧p.start≤1000000) (hpn:(pieces F9).length≤100000) :
  Calls Tryz.prog 107 #[.agg #[.string name,.int .u64 id,.int .i64 seq,.int .i64 ext,.int .i64 nx,.slice tp tl tc,.slice dp Gb.length dc,.slice vp F9.length vc,.slice hp hl hc],.string nm] w (xG Gb F9 nm w):=by
 refine callsIn_wide (n:=3) |>.1 ?_;refine callsIn_of_wp_marks Tryz.func107 rfl trivial ?_ rfl;simp only [Tryz.ntmps107,List.size_toArray,List.length_cons,List.length_nil,Nat.reduceAdd,Nat.reduceSub,Array.replicate_succ,Array.replicate_zero,List.push_toArray,List.append_toArray,List.nil_append,List.cons_append];refine wpIn_wide.2 ?_;have hB2:Below w.heap.size w ((w.alloc (.cells #[.string name,.int .u64 id,.int .i64 seq,.int .i64 ext,.int .i64 nx,.slice tp tl tc,.slice dp Gb.length dc,.slice vp F9.length vc,.slice hp hl hc] 31)).alloc (.cells #[.string nm] 9)):=((Below.refl _ _).alloc (Nat.le_refl _) _).alloc (by simp) _;have hz2:((w.alloc (.cells #[.string name,.int .u64 id,.int .i64 seq,.int .i64 ext,.int .i64 nx,.slice tp tl tc,.slice dp Gb.length dc,.slice vp F9.length vc,.slice hp hl hc] 31)).alloc (.cells #[.string nm] 9)).heap.size=w.heap.size+2:=by simp
 have hg2:((w.alloc (.cells #[.string name,.int .u64 id,.int .i64 seq,.int .i64 ext,.int .i64 nx,.slice tp tl tc,.slice dp Gb.length dc,.slice vp F9.length vc,.slice hp hl hc] 31)).alloc (.cells #[.string nm] 9)).heap[w.heap.size]?=some (.cells #[.string name,.int .u64 id,.int .i64 seq,.int .i64 ext,.int .i64 nx,.slice tp tl tc,.slice dp Gb.length dc,.slice vp F9.length vc,.slice hp hl hc] 31 (0,0)):=(Below.heap_alloc _ _ _ (by simp)).trans (heap_alloc_new w _)
 have hn2:((w.alloc (.cells #[.string name,.int .u64 id,.int .i64 seq,.int .i64 ext,.int .i64 nx,.slice tp tl tc,.slice dp Gb.length dc,.slice vp F9.length vc,.slice hp hl hc] 31)).alloc (.cells #[.string nm] 9)).heap[w.heap.size+1]?=some (.cells #[.string nm] 9 (0,0)):=by
  have:=heap_alloc_new (w.alloc (.cells #[.string name,.int .u64 id,.int .i64 seq,.int .i64 ext,.int .i64 nx,.slice tp tl tc,.slice dp Gb.length dc,.slice vp F9.length vc,.slice hp hl hc] 31)) (.cells #[.string nm] 9);rw [World.size_alloc] at this;exact this
 have HR:=aa hr;clear hr;have HV:=aa hv;clear hv;have HT:=aa ht;clear ht;have HTG:=aa htg;clear htg;have HDE:=aa hde;clear hde;have HPS:=aa hps;clear hps;have HG2:=aa hg2;clear hg2;have HN2:=aa hn2;clear hn2;have HB2:=aa hB2;clear hB2;have HZ2:=aa hz2;clear hz2
 go_wp2_with fail
 generalize hW2:World.alloc (World.alloc w _) _=W2 at *;clear hW2;refine (vV (ok:=ok) name id seq ext nx tp dp vp hp tl tc dc F9.length vc hl hc Gb nm W2 ((RdS.moves aO.moves).mv ⟨HB2.out.size,fun b hb ho=>⟨ho,HB2.out.block b hb⟩⟩ HR.out) hd HTG.out).mono ?_;rintro e w3 ⟨hb3,hm⟩;have hg3:=(hb3.block _ (lt_of_block HG2.out)).trans HG2.out;have hn3:=(hb3.block _ (lt_of_block HN2.out)).trans HN2.out;have HB3:=aa (HB2.out.trans (hb3.mono HB2.out.size));have hz3:w.heap.size+2≤w3.heap.size:=by have:=hb3.size;have:=HZ2.out;omega
 clear hb3;unfold xG;cases hf:bH Gb nm with
 | none =>
  rw [hf] at hm;obtain rfl:=hm;clear hg3 hn3;have HBZ:=aa (HB3.out.trans ((ae w3 (.cells #[.string ⟨#[]⟩,.int .u64 0,.int .i64 0,.int .i64 0,.bool false,.bool false,.slice none 0 0] 47)).mono HB3.out.size));go_wp2;exact ⟨.tuple #[.slice none 0 0,.int .i64 12],by simp [results,Tryz.results107,go_sem],by unfold xG;rw [hf];exact ⟨rfl,HBZ.out⟩⟩
 | some D =>
  rw [hf] at hm;obtain ⟨p3,n3,c3,rfl⟩:=hm;have hb4:Below w3.heap.size w3 ((w3.alloc (.cells #[.string D.name,.int .u64 D.id,.int .i64 D.first,.int .i64 D.Gc,.bool D.closed,.bool D.missing,.slice p3 n3 c3] 47)).alloc (.cells #[.slice none 0 0] 48)):=((Below.refl _ _).alloc (Nat.le_refl _) _).alloc (by simp) _;have hz4:((w3.alloc (.cells #[.string D.name,.int .u64 D.id,.int .i64 D.first,.int .i64 D.Gc,.bool D.closed,.bool D.missing,.slice p3 n3 c3] 47)).alloc (.cells #[.slice none 0 0] 48)).heap.size=w3.heap.size+2:=by simp
  have hd4:((w3.alloc (.cells #[.string D.name,.int .u64 D.id,.int .i64 D.first,.int .i64 D.Gc,.bool D.closed,.bool D.missing,.slice p3 n3 c3] 47)).alloc (.cells #[.slice none 0 0] 48)).heap[w3.heap.size]?=some (.cells #[.string D.name,.int .u64 D.id,.int .i64 D.first,.int .i64 D.Gc,.bool D.closed,.bool D.missing,.slice p3 n3 c3] 47 (0,0)):=(Below.heap_alloc _ _ _ (by simp)).trans (heap_alloc_new w3 _)
  have hl4:((w3.alloc (.cells #[.string D.name,.int .u64 D.id,.int .i64 D.first,.int .i64 D.Gc,.bool D.closed,.bool D.missing,.slice p3 n3 c3] 47)).alloc (.cells #[.slice none 0 0] 48)).heap[w3.heap.size+1]?=some (.cells #[.slice none 0 0] 48 (0,0)):=by
   have:=heap_alloc_new (w3.alloc (.cells #[.string D.name,.int .u64 D.id,.int .i64 D.first,.int .i64 D.Gc,.bool D.closed,.bool D.missing,.slice p3 n3 c3] 47)) (.cells #[.slice none 0 0] 48);rw [World.size_alloc] at this;exact this
  have hg4:=(hb4.block _ (lt_of_block hg3)).trans hg3;have HN4:=aa ((hb4.block _ (lt_of_block hn3)).trans hn3)
  have hgL:∀ (j:Nat) (z:Value),[.string name,.int .u64 id,.int .i64 seq,.int .i64 ext,.int .i64 nx,.slice tp tl tc,.slice dp Gb.length dc,.slice vp F9.length vc,.slice hp hl hc][j]?=some z→((w3.alloc (.cells #[.string D.name,.int .u64 D.id,.int .i64 D.first,.int .i64 D.Gc,.bool D.closed,.bool D.missing,.slice p3 n3 c3] 47)).alloc (.cells #[.slice none 0 0] 48)).cell? ⟨w.heap.size,j,none⟩=some z:=fun j z hz=>by
   simp only [World.cell?,hg4];simpa using hz
  have y0:=hgL 0 _ rfl;have y1:=hgL 1 _ rfl;have y2:=hgL 2 _ rfl;have y3:=hgL 3 _ rfl;have y4:=hgL 4 _ rfl;have y5:=hgL 5 _ rfl;have y6:=hgL 6 _ rfl;have y7:=hgL 7 _ rfl;have y8:=hgL 8 _ rfl;have HB4:=aa (HB3.out.trans (hb4.mono HB3.out.size));have HD4:=aa hd4;have HL4:=aa hl4;have HZ4:=aa hz4;clear hgL hb4 hz4 hd4 hl4 hg4 hg3 hn3
  go_wp2_with fail
  clear y0 y1 y2 y3 y4 y5 y6 y7 y8;generalize hW4:World.alloc (World.alloc w3 _) _=W4 at *;clear hW4;refine (Ew name id seq ext nx tp dp vp hp tl tc Gb.length dc F9.length vc hl hc W4).mono ?_;rintro e w5 ⟨rfl,rfl⟩;have hb5:=ae W4 (.cells #[.string name,.int .u64 id,.int .i64 seq,.int .i64 ext,.int .i64 nx,.slice tp tl tc,.slice dp Gb.length dc,.slice vp F9.length vc,.slice hp hl hc] 31);have HG5:=aa (heap_alloc_new W4 (.cells #[.string name,.int .u64 id,.int .i64 seq,.int .i64 ext,.int .i64 nx,.slice tp tl tc,.slice dp Gb.length dc,.slice vp F9.length vc,.slice hp hl hc] 31));have HD5:=aa ((hb5.block _ (lt_of_block HD4.out)).trans HD4.out);have HL5:=aa ((hb5.block _ (lt_of_block HL4.out)).trans HL4.out);have HN5:=aa ((hb5.block _ (lt_of_block HN4.out)).trans HN4.out);have HB5:=aa (HB4.out.trans (hb5.mono HB4.out.size));have HZ5:Hid (W4.heap.size<(W4.alloc (.cells #[.string name,.int .u64 id,.int .i64 seq,.int .i64 ext,.int .i64 nx,.slice tp tl tc,.slice dp Gb.length dc,.slice vp F9.length vc,.slice hp hl hc] 31)).heap.size):=aa (by simp);have hDE:=HDE.out D (List.mem_of_find?_eq_some hf);clear hb5;go_wp2;generalize hW5:World.alloc W4 _=W5 at *;have hzz:=HZ4.out;generalize hBg:W4.heap.size=Bg at *;generalize hBd:w3.heap.size=Bd at *;generalize hB1:W5.heap.size=B1 at *;clear hW5 HD4 HL4 HN4 HB4 HZ4;have hz5:=HZ5.out;have hzb:Bd+2≤Bg:=by omega
  clear hzz hBd hBg;refine (wpIn_wide (n:=3)).1 ?_
  refine wpIn_rangeFunc_ownH (F:=Fence.wide) rfl (by omega) (gf:=200) (lb:=#[.pointer (some ⟨Bg,0,none⟩)]) rfl trivial (enters_of Tryz.func200 (by kernel_rfl) rfl)
   (zh (3 - 1) w.heap.size Bg W5 vp vc F9 (by simp [World.cell?,HG5.out]) (by omega) (by omega) ((RdS.moves aN.moves).mv ⟨HB5.out.size,fun b hb ho=>⟨hb,HB5.out.block b hb⟩⟩ HV.out) HT.out hvl) KpT.trans
   (fun W l o o' hl h h1 h2=>⟨belowK_b (w:=W5) (by omega) W l o o' hl h h1 h2,fun k cs t z e _=>(grownBy_putObj' W l o').block k (lt_of_block e) (fun q=>by injection q with q;subst q;rw [e] at h;injection h with h;subst h;cases h1)⟩) (Below.refl _ _) (fun _=>rfl)
   (fun pre W=>∃ v,W.heap[Bd+1]?=some (.cells #[v] 48 (0,0))∧bM W B1 v (fM nm D.Gc pre)∧W.heap[Bd]?=some (.cells #[.string D.name,.int .u64 D.id,.int .i64 D.first,.int .i64 D.Gc,.bool D.closed,.bool D.missing,.slice p3 n3 c3] 47 (0,0))∧W.heap[w.heap.size+1]?=some (.cells #[.string nm] 9 (0,0))∧Below w.heap.size w W∧B1≤W.heap.size)
   (fun _ _ _=>False) ?own (fun _ _ _ _ _ h _ _=>h) ?init
   (fun x a' W=>∃ Bx,W.heap[Bx]?=some (.cells #[.string x.vol,.string x.disk,.int .i64 x.start,.int .i64 x.len] 214 (0,0))∧B1≤Bx∧a'=⟨#[.agg #[.string name,.int .u64 id,.int .i64 seq,.int .i64 ext,.int .i64 nx,.slice tp tl tc,.slice dp Gb.length dc,.slice vp F9.length vc,.slice hp hl hc],.string nm,.pointer (some ⟨w.heap.size,0,none⟩),.pointer (some ⟨w.heap.size+1,0,none⟩),.slice none 0 0,.int .i64 0,.pointer (some ⟨Bd,0,none⟩),.bool true,.pointer (some ⟨Bd+1,0,none⟩),.pointer (some ⟨Bx,0,none⟩),.tuple #[.agg #[.string D.name,.int .u64 D.id,.int .i64 D.first,.int .i64 D.Gc,.bool D.closed,.bool D.missing,.slice p3 n3 c3],.bool true],.agg #[.string name,.int .u64 id,.int .i64 seq,.int .i64 ext,.int .i64 nx,.slice tp tl tc,.slice dp Gb.length dc,.slice vp F9.length vc,.slice hp hl hc],.string nm,.tuple #[.agg #[.string D.name,.int .u64 D.id,.int .i64 D.first,.int .i64 D.Gc,.bool D.closed,.bool D.missing,.slice p3 n3 c3],.bool true],.agg #[.string D.name,.int .u64 D.id,.int .i64 D.first,.int .i64 D.Gc,.bool D.closed,.bool D.missing,.slice p3 n3 c3],.bool true,.bool true,.bool false,.agg #[.string name,.int .u64 id,.int .i64 seq,.int .i64 ext,.int .i64 nx,.slice tp tl tc,.slice dp Gb.length dc,.slice vp F9.length vc,.slice hp hl hc],.func (.func 200) #[] #[.pointer (some ⟨Bg,0,none⟩)],.agg #[.string x.vol,.string x.disk,.int .i64 x.start,.int .i64 x.len],undef,undef,undef,undef,undef,undef,undef,undef,undef,undef,undef,undef,undef,undef,undef,undef,undef,undef,undef,undef,undef,undef,undef,undef,undef,undef,undef,undef,undef,undef,undef,undef,undef,undef,undef,undef,undef,undef,undef],[]⟩) ?ax ?assign ?body ?done ?stop
  case own =>
   rintro pre W W' row ⟨v,h1,h2,h3,h4,h5,h6⟩ hg hr;exact ⟨v,xu hg hr h1,keepR hg hr h2,xu hg hr h3,xu hg hr h4,h5.grown hg h5.size (fun k e=>by have:=(hr k e).1;omega),Nat.le_trans h6 hg.size⟩
  case init=>exact ⟨.slice none 0 0,HL5.out,bM.nil _ _,HD5.out,HN5.out,HB5.out,by omega⟩
  case ax =>
   rintro x a' _ W W' row ⟨Bx,h1,h2,h3⟩ hg hr;exact ⟨Bx,xu hg hr h1,h2,h3⟩
  case assign =>
   rintro l pre x W K ⟨v,h1,h2,h3,h4,h5,h6⟩ hK;have HI:=aa (⟨h1,h2,h3,h4,h5,h6⟩:_∧_∧_∧_∧_∧_);clear h1 h2 h3 h4 h5;have HK:=aa hK;clear hK;simp only [FN,List.zip_toArray,List.zip_cons_cons,List.zip_nil_right,List.foldl_toArray,List.foldl_cons,List.foldl_nil,List.setIfInBounds_toArray,List.set_cons_succ,List.set_cons_zero]
   gi_wp2
   have hI:=HI.out;have hbx:=ae W (.cells #[.string x.vol,.string x.disk,.int .i64 x.start,.int .i64 x.len] 214);refine HK.out _ _ ((KeepsOthers.alloc _ _).from _) (KpT.of_below hbx hI.2.2.2.2.1.size) ⟨v,(hbx.block _ (lt_of_block hI.1)).trans hI.1,World.ownsRow.alloc hI.2.1 _,(hbx.block _ (lt_of_block hI.2.2.1)).trans hI.2.2.1,(hbx.block _ (lt_of_block hI.2.2.2.1)).trans hI.2.2.2.1,hI.2.2.2.2.1.alloc hI.2.2.2.2.1.size _,Nat.le_trans h6 hbx.size⟩ ⟨W.heap.size,heap_alloc_new W _,h6,rfl⟩
  case body =>
   rintro l pre x a' W hl ⟨r,hr⟩ ⟨v,h1,h2,h3,h4,h5,h6⟩ ⟨Bx,hx,hBx,rfl⟩ hlt;clear hr r;have x1:W.cell? ⟨Bx,1,none⟩=some (.string x.disk):=by simp [World.cell?,hx]
   have x2:W.cell? ⟨Bx,2,none⟩=some (.int .i64 x.start):=by simp [World.cell?,hx]
   have x3:W.cell? ⟨Bx,3,none⟩=some (.int .i64 x.len):=by simp [World.cell?,hx]
   have d3:W.cell? ⟨Bd,3,none⟩=some (.int .i64 D.Gc):=by simp [World.cell?,h3]
   have n0:W.cell? ⟨w.heap.size+1,0,none⟩=some (.string nm):=by simp [World.cell?,h4]
   have l0:W.cell? ⟨Bd+1,0,none⟩=some v:=by simp [World.cell?,h1]
   have hwz:=h5.size;have HI:=aa (⟨h1,h2,h3,h4,h5⟩:_∧_∧_∧_∧_);clear h1 h2 h3 h4 h5 hx
   by_cases c1:x.disk=nm
   ·have e1:(x.disk.toList == nm.toList)=true:=by rw [c1];simp
    by_cases c2:0≤x.start
    ·by_cases c3:x.start<D.Gc
     ·by_cases c4:0<x.len
      ·have HC:=aa (Bf (ext:=D.Gc) pre ⟨c1,c2,c3,c4⟩)
       have hde1:=hDE.1;have hde2:=hDE.2;have hw:IntKind.i64.wrap (D.Gc - x.start)=D.Gc - x.start:=IntWalk.i64_in _ (by omega);have hul:=nR nm D.Gc pre;have hlen:(fM nm D.Gc pre).length≤100000:=by omega
       clear hul;obtain ⟨i0,hi,hz0,hz1,hz2⟩:=info_parts DT;have HI0:=aa hi;clear hi;have HI1:=aa hz0;clear hz0;have HI2:=aa hz1;clear hz1;have HI3:=aa hz2;clear hz2;have HC1:=aa c1;clear c1
       gi_wp2_with (gi_at_builtin;refine DZ ?_)
       refine aa ?_;refine wpListIn_append_own _ rfl _ _ 48 rfl B1 62 i0 _ 2 16 Tryz.underlying48 HI0.out HI1.out HI2.out HI3.out rfl (by decide) v (fM nm D.Gc pre).length (bU (fM nm D.Gc pre)) rfl (World.ownsRow.alloc HI.out.2.1 _) ⟨W.heap.size,0,none⟩ 1 1 [.int .i64 x.start,.int .i64 (min x.len (D.Gc - x.start))] rfl rfl (fun j u hu=>by rw [Addr.add_lit,Nat.zero_add];exact aD rfl (by simpa using hu)) (by simp [Value.oneCell']) (by unfold maxLen;omega) (by omega) (by simp only [World.size_alloc];omega) ?_;intro v' w1 hown' hgrow _;obtain ⟨g',cap',rfl⟩:=ownsRow_succ hown';obtain ⟨i1,i2,i3,i4,i5⟩:=HI.out;have hA:=ae W (.cells #[.int .i64 x.start,.int .i64 (min x.len (D.Gc - x.start))] 62)
       have hvo:∀ k,v.ownBlock=some k→B1≤k∧∃ cur,W.heap[k]?=some (.cells cur 62 (0,0)):=fun k e=>⟨(World.ownsRow.lt i2 k e).1,by
        rcases i2.2 with ⟨rfl,_⟩ | ⟨g,cap,cur,rfl,_,hgg,_⟩
        ·cases e
        ·obtain rfl:g=k:=by injection e
         exact ⟨cur,hgg⟩⟩
       have kb:∀ k,k<W.heap.size→v.ownBlock≠some k→w1.heap[k]?=W.heap[k]?:=fun k hk hn=>(hgrow.block k (Nat.lt_of_lt_of_le hk hA.size) (fun e=>hn e.symm)).trans (hA.block k hk);have bl1:w1.heap[Bd+1]?=some (.cells #[v] 48 (0,0)):=(kb _ (lt_of_block i1) (fun e=>by have:=(hvo _ e).1;omega)).trans i1;have l1:w1.cell? ⟨Bd+1,0,none⟩=some v:=by simp [World.cell?,bl1]
       have lf:w1.frozen? ⟨Bd+1,0,none⟩=false:=by simp [World.frozen?,bl1]
       have hw1:W.heap.size≤w1.heap.size:=Nat.le_trans hA.size hgrow.size;have hBel:Below w.heap.size W w1:=((Below.refl _ W).alloc hwz _).grown hgrow (Nat.le_trans hwz hA.size) (fun k e=>by have:=(hvo k e).1;omega)
       have HST:Hid (∀ u:Value,KeepsFrom W5.heap.size W (w1.setCell ⟨Bd+1,0,none⟩ u)∧KpT w.heap.size W (w1.setCell ⟨Bd+1,0,none⟩ u)∧(w1.setCell ⟨Bd+1,0,none⟩ u).heap[Bd+1]?=some (.cells #[u] 48 (0,0))∧∀ k,k≠Bd+1→(w1.setCell ⟨Bd+1,0,none⟩ u).heap[k]?=w1.heap[k]?):=aa fun u=>by
        have ks:∀ k,k≠Bd+1→(w1.setCell ⟨Bd+1,0,none⟩ u).heap[k]?=w1.heap[k]?:=fun k e=>Below.heap_setCell _ _ _ _ e;have hs:(w1.setCell ⟨Bd+1,0,none⟩ u).heap.size=w1.heap.size:=by simp [World.setCell]
        refine ⟨⟨by omega,fun k o hk ho hc=>?_⟩,⟨hBel.setCell (p:=⟨Bd+1,0,none⟩) (by show w.heap.size≤Bd+1;omega) u,fun k cs t z e ht=>?_⟩,block_setCell (i:=0) u bl1,ks⟩
        ·have hkl:=(Array.getElem?_eq_some_iff.1 ho).1
         have hn1:k≠Bd+1:=fun e=>by
          rw [e,i1] at ho;injection ho with ho
          subst ho;cases hc
         have hn2:v.ownBlock≠some k:=fun e=>by
          obtain ⟨_,cur,q⟩:=hvo k e;rw [q] at ho;injection ho with ho
          subst ho;cases hc
         exact (ks k hn1).trans ((kb k hkl hn2).trans ho)
        ·have hn1:k≠Bd+1:=fun e'=>by
          rw [e',i1] at e;injection e with e
          injection e with _ e _
          subst e;cases ht
         have hn2:v.ownBlock≠some k:=fun e'=>by
          obtain ⟨_,cur,q⟩:=hvo k e';rw [q] at e;injection e with e
          injection e with _ e _
          subst e;cases ht
         exact (ks k hn1).trans (kb k (lt_of_block e) hn2)
       have HOW:=aa hown';clear hown';have HBel:=aa hBel;clear hBel;have HKB:=aa kb;clear kb;have HVO:=aa hvo;clear hvo;clear hgrow hA bl1
       gi_wp2
       obtain ⟨s1,s2,s3,s4⟩:=HST.out (.slice (some ⟨g',0,none⟩) ((fM nm D.Gc pre).length+1) cap');refine ⟨s1,s2,_,s3,?_,(s4 _ (by omega)).trans ((HKB.out _ (lt_of_block i3) (fun e=>by have:=(HVO.out _ e).1;omega)).trans i3),(s4 _ (by omega)).trans ((HKB.out _ (lt_of_block i4) (fun e=>by have:=(HVO.out _ e).1;omega)).trans i4),i5.trans s2.1,Nat.le_trans h6 s2.1.size⟩;rw [HC.out];unfold bM;rw [gJ,List.length_append];exact aC HOW.out fun k e=>s4 k (by have:=(World.ownsRow.lt HOW.out k e).1;omega)
      ·gi_wp2
       exact ⟨KeepsFrom.refl _ _,⟨Below.refl _ _,fun _ _ _ _ _ _=>rfl⟩,v,HI.out.1,by rw [jO pre (fun q=>by have:=q.2.2.2;omega)];exact HI.out.2.1,HI.out.2.2.1,HI.out.2.2.2.1,HI.out.2.2.2.2,h6⟩
     ·gi_wp2
      exact ⟨KeepsFrom.refl _ _,⟨Below.refl _ _,fun _ _ _ _ _ _=>rfl⟩,v,HI.out.1,by rw [jO pre (fun q=>by have:=q.2.2.1;omega)];exact HI.out.2.1,HI.out.2.2.1,HI.out.2.2.2.1,HI.out.2.2.2.2,h6⟩
    ·gi_wp2
     exact ⟨KeepsFrom.refl _ _,⟨Below.refl _ _,fun _ _ _ _ _ _=>rfl⟩,v,HI.out.1,by rw [jO pre (fun q=>by have:=q.2.1;omega)];exact HI.out.2.1,HI.out.2.2.1,HI.out.2.2.2.1,HI.out.2.2.2.2,h6⟩
   ·have e1:=jI c1
    gi_wp2
    exact ⟨KeepsFrom.refl _ _,⟨Below.refl _ _,fun _ _ _ _ _ _=>rfl⟩,v,HI.out.1,by rw [jO pre (fun q=>c1 q.1)];exact HI.out.2.1,HI.out.2.2.1,HI.out.2.2.2.1,HI.out.2.2.2.2,h6⟩
  case done =>
   rintro Dd xs W hD rfl ⟨v,h1,h2,h3,h4,h5,h6⟩ hK;have l0:W.cell? ⟨Bd+1,0,none⟩=some v:=by simp [World.cell?,h1]
   have hul:=nR nm D.Gc (pieces F9);have hKl:=(Array.getElem?_eq_some_iff.1 hK).1;have HK:=aa hK;clear hK;have H5:=aa h5;clear h5;have H2:=aa h2;clear h2;clear h1 h3 h4
   go_wp2_with fail
   refine (tJ (fM nm D.Gc (pieces F9)) v W H2.out.rd (uI hDE.2) (by omega)).mono ?_;rintro e w7 ⟨v7,x7,rfl,ho7,hnf,hl7,hb7⟩;have hK7:=(hb7.block Dd hKl).trans HK.out;have HO7:=aa ho7;clear ho7;have HB7:=aa hb7;clear hb7;have HNF:=aa hnf;clear hnf;go_wp2;refine ⟨by simp,.inl ⟨_,_,rfl,run_takeDeferred hK7,?_⟩⟩;refine ⟨.tuple #[v7,.int .i64 0],by simp [results,Tryz.results107,go_sem],?_⟩;unfold xG;rw [hf];have hw7:=HB7.out.size;have h5z:=H5.out.size;exact ⟨v7,x7,rfl,ownsRow_putObj (bM.mono HO7.out h5z) _ hK7 rfl,HNF.out,hl7,(H5.out.trans (HB7.out.mono h5z)).trans (belowK_b (w:=w) (Nat.le_refl _) w7 Dd _ _ (by omega) hK7 rfl rfl)⟩
  case stop =>
   rintro D c pre W _ _ h _;exact h.elim
end Go.Proofs.YtjdfihglehfelaaGreatDoor
namespace Go.Proofs.YtjdfihglehfelaaGreatDoor
open Go.RowKit
def zR (Gb:List az)(F9:List ay)(nm:ByteArray)(w:World)(e:Ending)(w':World):Prop :=
 match bH Gb nm with
 | none=>e=.returned (.tuple #[.slice none 0 0,.int .i64 12])∧Below w.heap.size w w'
 | some D=>vD w (fun n=>(0≤n∧n<D.Gc)∧¬ Mem (fM nm D.Gc (pieces F9)) n) (2*((pieces F9).length+1)) e w'
theorem Di {ok:Nat→Prop}(name:ByteArray)(id seq ext nx:Int)(tp dp vp hp:Option Addr)(tl tc dc vc hl hc:Nat)(Gb:List az)(F9:List ay)(nm:ByteArray)(w:World)(hr:RdS aO 7 ok w [.slice dp Gb.length dc] Gb)(hd:Gb.length≤1000)(htg:∀ D∈Gb,D.tags.length≤1000)(hde:∀ D∈Gb,0≤D.Gc∧D.Gc≤1000000)
  (hv:RdS aN 6 ok w [.slice vp F9.length vc] F9) (hvl:F9.length≤1000) (ht:qx F9) (hps:∀ p∈pieces F9,0≤p.start∧p.start≤1000000) (hpn:(pieces F9).length≤100000) :
  Calls Tryz.prog 57 #[.agg #[.string name,.int .u64 id,.int .i64 seq,.int .i64 ext,.int .i64 nx,.slice tp tl tc,.slice dp Gb.length dc,.slice vp F9.length vc,.slice hp hl hc],.string nm] w (zR Gb F9 nm w):=by
 have hb1:=ae w (.cells #[.string name,.int .u64 id,.int .i64 seq,.int .i64 ext,.int .i64 nx,.slice tp tl tc,.slice dp Gb.length dc,.slice vp F9.length vc,.slice hp hl hc] 31);have hg1:=heap_alloc_new w (.cells #[.string name,.int .u64 id,.int .i64 seq,.int .i64 ext,.int .i64 nx,.slice tp tl tc,.slice dp Gb.length dc,.slice vp F9.length vc,.slice hp hl hc] 31);have HR:=aa hr;clear hr;have HV:=aa hv;clear hv;have HT:=aa ht;clear ht;have HTG:=aa htg;clear htg;have HDE:=aa hde;clear hde;have HPS:=aa hps;clear hps;have HG1:=aa hg1;clear hg1;have HB1:=aa hb1;clear hb1;go_enter Tryz.func57,Tryz.ntmps57
 go_wp2_with fail
 generalize hW1:World.alloc w _=W1 at *;clear hW1;refine (CG (ok:=ok) name id seq ext nx tp dp vp hp tl tc dc vc hl hc Gb F9 nm W1 ((RdS.moves aO.moves).mv ⟨HB1.out.size,fun b hb ho=>⟨ho,HB1.out.block b hb⟩⟩ HR.out) hd HTG.out HDE.out ((RdS.moves aN.moves).mv ⟨HB1.out.size,fun b hb ho=>⟨ho,HB1.out.block b hb⟩⟩ HV.out) hvl HT.out HPS.out hpn).mono ?_;rintro e w2 hu;unfold xG at hu;cases hf:bH Gb nm with
 | none =>
  rw [hf] at hu;obtain ⟨rfl,hb2⟩:=hu;have HB2:=aa (HB1.out.trans (hb2.mono HB1.out.size));clear hb2;go_wp2;refine bodyPost_ret (v:=.tuple #[.slice none 0 0,.int .i64 12]) (by simp [results,Tryz.results57,go_sem]) rfl ?_;unfold zR;rw [hf];exact ⟨rfl,HB2.out⟩
 | some D =>
  rw [hf] at hu;obtain ⟨v2,x2,rfl,ho2,hnf2,hl2,hb2⟩:=hu;have hDE:=HDE.out D (List.mem_of_find?_eq_some hf);have hg2:=(hb2.block _ (lt_of_block HG1.out)).trans HG1.out;have HB2:=aa (HB1.out.trans (hb2.mono HB1.out.size));have HO2:=aa ho2;clear ho2;have HNF:=aa hnf2;clear hnf2;clear hb2
  have gL:∀ (j:Nat) (z:Value),[.string name,.int .u64 id,.int .i64 seq,.int .i64 ext,.int .i64 nx,.slice tp tl tc,.slice dp Gb.length dc,.slice vp F9.length vc,.slice hp hl hc][j]?=some z→w2.cell? ⟨w.heap.size,j,none⟩=some z:=fun j z hz=>by
   simp only [World.cell?,hg2];simpa using hz
  have y0:=gL 0 _ rfl;have y1:=gL 1 _ rfl;have y2:=gL 2 _ rfl;have y3:=gL 3 _ rfl;have y4:=gL 4 _ rfl;have y5:=gL 5 _ rfl;have y6:=gL 6 _ rfl;have y7:=gL 7 _ rfl;have y8:=gL 8 _ rfl;clear gL hg2
  go_wp2_with fail
  clear y0 y1 y2 y3 y4 y5 y6 y7 y8;refine (vV (ok:=ok) name id seq ext nx tp dp vp hp tl tc dc F9.length vc hl hc Gb nm w2 ((RdS.moves aO.moves).mv ⟨HB2.out.size,fun b hb ho=>⟨ho,HB2.out.block b hb⟩⟩ HR.out) hd HTG.out).mono ?_;rintro e w3 ⟨hb3,hm⟩;rw [hf] at hm;obtain ⟨p3,n3,c3,rfl⟩:=hm;have HB3:=aa (HB2.out.trans (hb3.mono HB2.out.size));have HO3:=aa (bM.below HO2.out hb3);clear hb3;have hb4:Below w3.heap.size w3 ((w3.alloc (.cells #[.string D.name,.int .u64 D.id,.int .i64 D.first,.int .i64 D.Gc,.bool D.closed,.bool D.missing,.slice p3 n3 c3] 47)).alloc (.cells #[.int .i64 0,.int .i64 D.Gc] 62)):=((Below.refl _ _).alloc (Nat.le_refl _) _).alloc (by simp) _
  have hr4:((w3.alloc (.cells #[.string D.name,.int .u64 D.id,.int .i64 D.first,.int .i64 D.Gc,.bool D.closed,.bool D.missing,.slice p3 n3 c3] 47)).alloc (.cells #[.int .i64 0,.int .i64 D.Gc] 62)).heap[w3.heap.size+1]?=some (.cells #[.int .i64 0,.int .i64 D.Gc] 62 (0,0)):=by
   have:=heap_alloc_new (w3.alloc (.cells #[.string D.name,.int .u64 D.id,.int .i64 D.first,.int .i64 D.Gc,.bool D.closed,.bool D.missing,.slice p3 n3 c3] 47)) (.cells #[.int .i64 0,.int .i64 D.Gc] 62);rw [World.size_alloc] at this;exact this
  have HR4:=aa hr4;clear hr4;have HB4:=aa (HB3.out.trans (hb4.mono HB3.out.size));have HO4:=aa (bM.below HO3.out hb4);clear hb4;have hx2:x2.length≤(pieces F9).length:=Nat.le_trans hl2 (nR _ _ _)
  go_wp2_with fail
  generalize hW4:World.alloc (World.alloc w3 _) _=W4 at *;clear hW4
  have hrl:RdR W4 (.slice (some ⟨w3.heap.size+1,0,none⟩) 1 1) [(0,D.Gc)]:=⟨_,1,rfl,by simp,by omega,fun _=>⟨_,0,rfl,lt_of_block HR4.out,fun i p hp=>by
   match i,hp with
   | 0,hp =>
    obtain rfl:(0,D.Gc)=p:=by simpa using hp
    exact ⟨by simp [World.cell?,HR4.out],by simp [World.cell?,HR4.out]⟩⟩⟩
  refine (DK [(0,D.Gc)] x2 _ v2 W4 hrl HO4.out.rd (by simp [dI,nT];omega) (jC HNF.out (uI hDE.2)) (by simp) (by omega)).mono ?_;rintro e w5 ⟨v5,x5,rfl,ho5,hnf5,hv5,hl5,hb5⟩;have HO5:=aa ho5;clear ho5;have HN5:=aa hnf5;clear hnf5;have HV5:=aa hv5;clear hv5;have HB5:=aa hb5;clear hb5;clear hrl;go_wp2;refine bodyPost_ret (v:=.tuple #[v5,.int .i64 0]) (by simp [results,Tryz.results57,go_sem]) rfl ?_;unfold zR;rw [hf];have h4z:=HB4.out.size;refine ⟨v5,x5,rfl,bM.mono HO5.out h4z,HN5.out.congr (fun n=>?_),HV5.out,?_,HB4.out.trans (HB5.out.mono h4z)⟩
  ·have hm:inB x2 n=true↔Mem (fM nm D.Gc (pieces F9)) n:=(fe x2 n).trans (HNF.out.2 n)
   have h0:inB [(0,D.Gc)] n=true↔(0≤n∧n<D.Gc):=by simp [inB]
   simp only [cM,Bool.and_eq_true,Bool.not_eq_true',h0];rw [← hm,Bool.not_eq_true]
  ·simp only [List.length_cons,List.length_nil] at hl5
   omega
open Go.Maps Go.Shelf
theorem wK:∀ {l:List (ByteArray × Int)},(oW l).2=0→∀ x∈l,x.2=0
 | [],_,x,hx=>by cases hx
 | r :: l,h,x,hx=>by
  unfold oW at h;split at h
  ·rename_i hr
   rcases List.mem_cons.1 hx with rfl | hx
   ·exact hr
   ·exact wK h x hx
  ·rename_i hr
   exact absurd h hr
variable {g:af}
theorem Dg (h:(pM g).2=0):(dZ g).2=0∧(dw g).2=0∧(dJ g).2=0∧(iP g).2=0∧(mY g).2=0∧(qG g).2=0∧(pE g).2=0∧(rY g).2=0:=by
 have:=wK h;exact ⟨this _ (by simp),this _ (by simp),this _ (by simp),this _ (by simp),this _ (by simp),this _ (by simp),this _ (by simp),this _ (by simp)⟩
theorem Au {l:List ByteArray}(h:eP l=0):l.length≤8:=by
 unfold eP at h;split at h
 ·cases h
 ·omega
theorem zy (h:(dw g).2=0):∀ d∈g.Gb,d.tags.length≤8:=fun d hd=>by
 obtain ⟨j,hj⟩:=List.getElem?_of_mem hd;have:=ll (i:=0) h j d hj;rw [Nat.zero_add] at this;unfold pg at this;split at this
 ·cases this
 ·split at this
  ·cases this
  ·split at this
   ·cases this
   ·exact Au this
theorem qQ {ext:Int}{s:aB}{st:Int}(h:bJ ext s st=true):fP s→∀ a∈s.Ga,a.vol=false:=by
 intro ho a ha;cases hs:shapeOf s.kind with
 | none=>rw [jT hs] at h;cases h
 | some x =>
  have hx:x.F9=false:=by
   rcases ho with q | q | q <;> (rw [q] at hs;cases hs;rfl)
  rw [jP hs] at h;simp only [Bool.and_eq_true,decide_eq_true_eq] at h;have h5:=h.1.1.1.1.1.1.1.1.1.2;have:=List.all_eq_true.1 h5 a ha;unfold bT at this;rw [hx] at this;simp only [Bool.and_eq_true] at this;simpa using this.1
theorem lY {α β:Type}(f:α→List β)(m:Nat):∀ l:List α,(∀ x∈l,(f x).length≤m)→(l.flatMap f).length≤l.length*m
 | [],_=>by simp
 | x :: l,h=>by
  have h1:=h x (List.mem_cons_self ..);have h2:=lY f m l fun y hy=>h y (List.mem_cons_of_mem _ hy);rw [List.flatMap_cons,List.length_append,List.length_cons,Nat.add_mul];omega
theorem Cb (s:aB):(rQ s).length≤s.Ga.length+2:=by
 unfold rQ;rw [List.length_append,List.length_append,List.length_map];have:=List.length_filter_le (fun a:aR=>a.vol) s.Ga;split <;> split <;> simp <;> omega
theorem rP:∀ {l:List az} {i:Nat} {D:az},(l.map (·.name)).Nodup→l[i]?=some D→bH l D.name=some D
 | [],_,_,_,h=>by cases h
 | x :: l,i,D,hn,h=>by
  rw [List.map_cons,List.nodup_cons] at hn;unfold bH;rw [List.find?_cons]
  match i,h with
  | 0,h =>
   obtain rfl:x=D:=by simpa using h
   simp
  | i+1,h =>
   have h':l[i]?=some D:=by simpa using h
   have:¬ x.name=D.name:=fun e=>hn.1 (e ▸ List.mem_map.2 ⟨D,List.mem_of_getElem? h',rfl⟩);rw [decide_eq_false this];exact rP hn.2 h'
structure E9 (g:af):Prop where
 nd:rT g
 dl:g.Gb.length≤8
 dt:∀ d∈g.Gb,d.tags.length≤8
 de:∀ d∈g.Gb,0≤d.Gc∧d.Gc≤4096
 df:∀ (i:Nat) (D:az),g.Gb[i]?=some D→bH g.Gb D.name=some D
 vl:g.F9.length≤32
 tm:qx g.F9
 ps:∀ p∈pieces g.F9,0≤p.start∧p.start≤4096
 pn:(pieces g.F9).length≤12288
 a6:∀ v∈g.F9,∀ s∈v.Gf,s.Ga.length≤6
theorem Fb (hi:GIn g)(h:(pM g).2=0):E9 g:=by
 obtain ⟨h1,h2,h3,h4,h5,-,-,-⟩:=Dg h;obtain ⟨r1,r2⟩:=iT h1;have hs:=mZ h4;have hv:=nH h3;have hd:=nG h2
 have hde:∀ d∈g.Gb,0≤d.Gc∧d.Gc≤4096:=fun d hd'=>by
  have:=(hd.2 d hd').1;unfold jQ at this;omega
 have hsg:∀ v∈g.F9,∀ s∈v.Gf,s.Ga.length≤6:=fun v hv' s hs'=>(hs v hv' s hs').fm.ar
 have hpc:∀ v∈g.F9,(aW v).length≤384:=fun v hv'=>by
  have h0:=(hv v hv').2.2.2
  have h6:=lY (aK v.name) 6 v.Gf fun s hs'=>by
   have:=hsg v hv' s hs';unfold aK;split
   ·rw [List.length_map];exact this
   ·simp
  have:v.Gf.length*6≤64*6:=Nat.mul_le_mul_right _ h0;unfold aW;omega
 refine ⟨⟨⟨hi.sz,fun v hv'=>by have:=(hv v hv').2.1;unfold maxLen;omega,fun v hv'=>?_,fun v hv' x hx=>?_,by have:=r2.2.1;omega⟩,fun d hd'=>?_,by have:=r2.1;omega,fun v hv'=>?_,fun v hv' s hs' a ha=>?_⟩,r2.1,zy h2,hde,fun i D hD=>rP hd.1 hD,r2.2.1,fun v hv'=>⟨by have:=(hv v hv').2.2.2;omega,fun s hs'=>?_⟩,fun p hp=>?_,?_,hsg⟩
 ·have h0:=(hv v hv').2.2.2
  have h6:=lY rQ 8 v.Gf fun s hs'=>by have:=hsg v hv' s hs';have:=Cb s;omega
  have:v.Gf.length*8≤64*8:=Nat.mul_le_mul_right _ h0;unfold kY;omega
 ·obtain ⟨s,hs',hx⟩:=List.mem_flatMap.1 hx
  obtain ⟨m1,m2,m3,m4⟩:=hi.st v hv' s hs';unfold maxLen;unfold rQ at hx;rcases List.mem_append.1 hx with hx | hx
  ·rcases List.mem_append.1 hx with hx | hx
   ·obtain ⟨a,ha,rfl⟩:=List.mem_map.1 hx
    exact m3 a ((List.mem_filter.1 ha).1)
   ·split at hx
    ·cases hx
    ·obtain rfl:=List.mem_singleton.1 hx
     exact m1
  ·split at hx
   ·cases hx
   ·obtain rfl:=List.mem_singleton.1 hx
    exact m2
 ·have:=oo ((hd.2 d hd').2)
  unfold maxLen;omega
 ·have h0:=(hv v hv').2.2.2
  have h6:=lY (fun s:aB=>s.Ga) 6 v.Gf fun s hs'=>hsg v hv' s hs';have:v.Gf.length*6≤64*6:=Nat.mul_le_mul_right _ h0;unfold bV;omega
 ·unfold maxLen
  exact (hi.st v hv' s hs').2.2.1 a ha
 ·have hf:=(hs v hv' s hs').fm
  have a1:=hf.l0;have a2:=hf.l1;have a3:=hf.ar;obtain ⟨st,hst⟩:=qP h4 v hv' s hs';exact ⟨by omega,by omega,qQ hst⟩
 ·obtain ⟨v,hv',hp⟩:=List.mem_flatMap.1 hp
  obtain ⟨s,hs',hp⟩:=List.mem_flatMap.1 hp;obtain ⟨st,hst⟩:=qP h4 v hv' s hs';have hr:=zZ (Dh h5 v hv' s hs');unfold aK at hp;split at hp
  ·rename_i ho
   obtain ⟨a,ha,rfl⟩:=List.mem_map.1 hp;have hvol:=qQ hst ho a ha;have e2:=List.all_eq_true.1 hr.2.1 a ha;unfold fI at e2;have e1:=hr.1;unfold jw at e1;rw [Bool.and_eq_true,List.all_eq_true] at e1;have e3:=e1.1 a ha;rw [hvol,Bool.false_or] at e2 e3;obtain ⟨d,hd'⟩:=Option.isSome_iff_exists.1 e3;rw [hd'] at e2;simp only [Bool.and_eq_true,decide_eq_true_eq,Option.getD_some] at e2;have:=hde d (List.mem_of_find?_eq_some hd');simp only [aJ];omega
  ·cases hp
 ·have h6:=lY aW 384 g.F9 hpc
  have:=r2.2.1;have:g.F9.length*384≤32*384:=Nat.mul_le_mul_right _ (by omega);unfold pieces;omega
end Go.Proofs.YtjdfihglehfelaaGreatDoor
namespace Go.Proofs.YtjdfihglehfelaaGreatDoor
open Go.RowKit Go.Maps Go.Shelf
noncomputable def gF (g:af)(r:aY):List ByteArray:=if r.near.toList.isEmpty then [] else sP g r.near
def kR (g:af)(l:List ByteArray):List ByteArray:=l.flatMap fun nm=>((bH g.Gb nm).getD gT).tags
def jV (d:az):Bool:=!d.closed&&!d.missing
def jG (tag:ByteArray)(d:az):Bool:=tag.toList.isEmpty||bI d.tags tag
def nN (near:List ByteArray)(p:Int)(d:az):Bool:=!(p == 2)||bI near d.name
def vE (near tags:List ByteArray)(p:Int)(d:az):Bool:=!(p == 3)||(bI near d.name||d.tags.any (bI tags))
def iD (near tags:List ByteArray)(r:aY)(d:az):Bool:=jV d&&(jG r.tag d&&(nN near r.Gg d&&vE near tags r.Gg d))
noncomputable def nD (g:af)(r:aY)(d:az):Bool:=iD (gF g r) (kR g (gF g r)) r d
def xy (g:af)(d:az)(n:Int):Prop:=(0≤n∧n<d.Gc)∧¬ Mem (fM d.name d.Gc (pieces g.F9)) n
def qN (s:aB):List (ByteArray × Int):=s.Ga.map fun a=>(a.on,a.start+iB s.kind s.length s.Ga.length)
def oZ (l:List aB):List (ByteArray × Int):=match l.getLast? with
 | some s=>if s.kind=1∨s.kind=2 then qN s else []
 | none=>[]
def jE (g:af)(nm:ByteArray):List (ByteArray × Int):=oZ ((aM g.F9 nm).getD eY).Gf
def su (nm:ByteArray)(e:ByteArray × Int)(x:List (Int × Int)):List (Int × Int):=x.filterMap fun r=>if e.1=nm∧r.1≤e.2∧e.2<r.1+r.2 then some (e.2,r.1+r.2 - e.2) else none
def mQ (ends:List (ByteArray × Int))(nm:ByteArray)(x:List (Int × Int)):List (Int × Int):=ends.flatMap fun e=>su nm e x
def uM (r:aY):Bool:=r.Gg == 1&&!r.near.toList.isEmpty
def kI (g:af)(r:aY)(d:az)(n:Int):Prop:=nD g r d=true∧if uM r=true then ∃ x,iE x (xy g d)∧Mem (mQ (jE g r.near) d.name x) n else xy g d n
theorem CY {nm:ByteArray}{e:ByteArray × Int}{x:List (Int × Int)}{p:Int × Int}(h:p∈su nm e x):e.1=nm∧p.1=e.2∧∃ r∈x,r.1≤e.2∧e.2<r.1+r.2∧p.2=r.1+r.2 - e.2:=by
 obtain ⟨r,hr,hp⟩:=List.mem_filterMap.1 h;split at hp
 ·rename_i c
  injection hp with hp
  subst hp;exact ⟨c.1,rfl,r,hr,c.2.1,c.2.2,rfl⟩
 ·cases hp
theorem Dl {ends:List (ByteArray × Int)}{nm:ByteArray}{x:List (Int × Int)}{p:Int × Int}(h:p∈mQ ends nm x):∃ e∈ends,e.1=nm∧p.1=e.2∧∃ r∈x,r.1≤e.2∧e.2<r.1+r.2∧p.2=r.1+r.2 - e.2:=by
 obtain ⟨e,he,hp⟩:=List.mem_flatMap.1 h;exact ⟨e,he,CY hp⟩
theorem xS {ends:List (ByteArray × Int)}{nm:ByteArray}{x:List (Int × Int)}(h:∀ p∈x,0≤p.1∧1≤p.2∧p.1+p.2≤1073741824):dI (mQ ends nm x)=true:=by
 unfold dI;rw [List.all_eq_true];intro p hp;obtain ⟨e,-,-,h3,r,hr,h4,h5,h6⟩:=Dl hp;have:=h r hr;simp only [nT,Bool.and_eq_true,decide_eq_true_eq];omega
theorem wT (nm:ByteArray)(e:ByteArray × Int)(x:List (Int × Int)):(su nm e x).length≤x.length:=List.length_filterMap_le _ _
theorem Dj (ends:List (ByteArray × Int))(nm:ByteArray)(x:List (Int × Int)):(mQ ends nm x).length≤ends.length*x.length:=lY _ _ _ fun e _=>wT nm e x
theorem Cc (s:aB):(qN s).length≤s.Ga.length:=by
 unfold qN;rw [List.length_map];exact Nat.le_refl _
theorem mem_of_getLast? {α:Type}:∀ {l:List α} {x:α},l.getLast?=some x→x∈l
 | [],_,h=>by cases h
 | a :: l,x,h=>by
  rw [List.getLast?_eq_getElem?] at h;exact List.mem_of_getElem? h
theorem Bu {l:List aB}{m:Nat}(h:∀ s∈l,s.Ga.length≤m):(oZ l).length≤m:=by
 unfold oZ;split
 ·rename_i s hs
  split
  ·exact Nat.le_trans (Cc s) (h s (mem_of_getLast? hs))
  ·simp
 ·simp
def aY.tg (r:aY)(t:ByteArray):aY:={ r with tag:=t }
theorem Ar {g:af}{r:aY}{d:az}(t:ByteArray)(ht:t.toList.isEmpty=false):nD g (r.tg t) d=(bI d.tags t&&nD g (r.tg ⟨#[]⟩) d):=by
 have e1:gF g (r.tg t)=gF g (r.tg ⟨#[]⟩):=rfl;have e2:jG t d=bI d.tags t:=by rw [jG,ht,Bool.false_or]
 have e3:jG ⟨#[]⟩ d=true:=by simp [jG]
 unfold nD iD;rw [e1];show (jV d&&(jG t d&&(nN (gF g (r.tg ⟨#[]⟩)) r.Gg d&&vE (gF g (r.tg ⟨#[]⟩)) (kR g (gF g (r.tg ⟨#[]⟩))) r.Gg d)))=(bI d.tags t&&(jV d&&(jG ⟨#[]⟩ d&&(nN (gF g (r.tg ⟨#[]⟩)) r.Gg d&&vE (gF g (r.tg ⟨#[]⟩)) (kR g (gF g (r.tg ⟨#[]⟩))) r.Gg d))));rw [e2,e3,Bool.true_and,Bool.and_left_comm]
theorem uk {g:af}{r:aY}{d:az}{n:Int}(t:ByteArray)(ht:t.toList.isEmpty=false):kI g (r.tg t) d n↔bI d.tags t=true∧kI g (r.tg ⟨#[]⟩) d n:=by
 unfold kI;rw [Ar t ht,Bool.and_eq_true,and_assoc];rfl
theorem D6 {g:af}{r:aY}(h:kP g r=0):(pM g).2=0∧yZ g r=0:=by
 unfold kP at h;split at h
 ·rename_i hm
  exact ⟨hm,h⟩
 ·rename_i hm
  exact absurd h hm
theorem Db {g:af}{r:aY}{t:ByteArray}(ht:eu t=true):kP g (r.tg t)=kP g (r.tg ⟨#[]⟩):=by
 have e:eu (⟨#[]⟩:ByteArray)=true:=by simp [eu]
 have:yZ g (r.tg t)=yZ g (r.tg ⟨#[]⟩):=by
  unfold yZ;rw [show eu (r.tg t).tag=eu (r.tg ⟨#[]⟩).tag from ht.trans e.symm];rfl
 unfold kP;rw [this]
end Go.Proofs.YtjdfihglehfelaaGreatDoor
