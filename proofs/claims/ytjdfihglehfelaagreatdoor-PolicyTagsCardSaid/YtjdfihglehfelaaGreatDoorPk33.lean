/- Lemmas: PolB, PolC. -/
import Derived.Test.YtjdfihglehfelaaGreatDoorPk32
set_option maxRecDepth 100000
set_option maxHeartbeats 32000000
set_option linter.all false
namespace Go.Proofs.YtjdfihglehfelaaGreatDoor
open Go.RowKit Go.Maps Go.Shelf
def iI (b:Bool)(w:World)(e:Ending)(w':World):Prop:=e=.returned (.bool b)∧Below w.heap.size w w'
structure BC (w:World)(Bj Bd:Nat)(r:aY)(np jp:Option Addr)(nc jc:Nat)(nl jl:List ByteArray)(d:az)(tp:Option Addr)(tc:Nat):Prop where
 j:w.heap[Bj]?=some (.cells #[.int .i64 r.Gi,.int .i64 r.Gh,.int .i64 r.Gc,.int .i64 r.Gg,.string r.tag,.string r.near,.string r.sep,.slice np nl.length nc,.slice jp jl.length jc] 99 (0,0))
 d:w.heap[Bd]?=some (.cells #[.string d.name,.int .u64 d.id,.int .i64 d.first,.int .i64 d.Gc,.bool d.closed,.bool d.missing,.slice tp d.tags.length tc] 47 (0,0))
theorem BC.jc {w:World}{Bj Bd:Nat}{r:aY}{np jp:Option Addr}{nc jc:Nat}{nl jl:List ByteArray}{d:az}{tp:Option Addr}{tc:Nat}(h:BC w Bj Bd r np jp nc jc nl jl d tp tc)(i:Nat)(z:Value)(hz:[.int .i64 r.Gi,.int .i64 r.Gh,.int .i64 r.Gc,.int .i64 r.Gg,.string r.tag,.string r.near,.string r.sep,.slice np nl.length nc,.slice jp jl.length jc][i]?=some z):w.cell? ⟨Bj,i,none⟩=some z:=by
 simp only [World.cell?,h.j];simpa using hz
theorem BC.dc {w:World}{Bj Bd:Nat}{r:aY}{np jp:Option Addr}{nc jc:Nat}{nl jl:List ByteArray}{d:az}{tp:Option Addr}{tc:Nat}(h:BC w Bj Bd r np jp nc jc nl jl d tp tc)(i:Nat)(z:Value)(hz:[.string d.name,.int .u64 d.id,.int .i64 d.first,.int .i64 d.Gc,.bool d.closed,.bool d.missing,.slice tp d.tags.length tc][i]?=some z):w.cell? ⟨Bd,i,none⟩=some z:=by
 simp only [World.cell?,h.d];simpa using hz
theorem nM (w:World)(r:aY)(np jp:Option Addr)(nc jc:Nat)(nl jl:List ByteArray)(d:az)(tp:Option Addr)(tc:Nat) :
  BC ((w.alloc (.cells #[.int .i64 r.Gi,.int .i64 r.Gh,.int .i64 r.Gc,.int .i64 r.Gg,.string r.tag,.string r.near,.string r.sep,.slice np nl.length nc,.slice jp jl.length jc] 99)).alloc (.cells #[.string d.name,.int .u64 d.id,.int .i64 d.first,.int .i64 d.Gc,.bool d.closed,.bool d.missing,.slice tp d.tags.length tc] 47)) w.heap.size (w.heap.size+1) r np jp nc jc nl jl d tp tc ∧
   Below w.heap.size w ((w.alloc (.cells #[.int .i64 r.Gi,.int .i64 r.Gh,.int .i64 r.Gc,.int .i64 r.Gg,.string r.tag,.string r.near,.string r.sep,.slice np nl.length nc,.slice jp jl.length jc] 99)).alloc (.cells #[.string d.name,.int .u64 d.id,.int .i64 d.first,.int .i64 d.Gc,.bool d.closed,.bool d.missing,.slice tp d.tags.length tc] 47)):=by
 have hA1:=ae w (.cells #[.int .i64 r.Gi,.int .i64 r.Gh,.int .i64 r.Gc,.int .i64 r.Gg,.string r.tag,.string r.near,.string r.sep,.slice np nl.length nc,.slice jp jl.length jc] 99);have hA2:=ae (w.alloc (.cells #[.int .i64 r.Gi,.int .i64 r.Gh,.int .i64 r.Gc,.int .i64 r.Gg,.string r.tag,.string r.near,.string r.sep,.slice np nl.length nc,.slice jp jl.length jc] 99)) (.cells #[.string d.name,.int .u64 d.id,.int .i64 d.first,.int .i64 d.Gc,.bool d.closed,.bool d.missing,.slice tp d.tags.length tc] 47);have hN1:=heap_alloc_new w (.cells #[.int .i64 r.Gi,.int .i64 r.Gh,.int .i64 r.Gc,.int .i64 r.Gg,.string r.tag,.string r.near,.string r.sep,.slice np nl.length nc,.slice jp jl.length jc] 99);have hN2:=heap_alloc_new (w.alloc (.cells #[.int .i64 r.Gi,.int .i64 r.Gh,.int .i64 r.Gc,.int .i64 r.Gg,.string r.tag,.string r.near,.string r.sep,.slice np nl.length nc,.slice jp jl.length jc] 99)) (.cells #[.string d.name,.int .u64 d.id,.int .i64 d.first,.int .i64 d.Gc,.bool d.closed,.bool d.missing,.slice tp d.tags.length tc] 47);rw [World.size_alloc] at hN2;exact ⟨⟨(hA2.block _ (lt_of_block hN1)).trans hN1,hN2⟩,hA1.trans (hA2.mono hA1.size)⟩
theorem AX (r:aY)(np jp:Option Addr)(nc jc:Nat)(nl jl:List ByteArray)(d:az)(tp:Option Addr)(tc:Nat)(w:World) :
  Calls Tryz.prog 51 #[.agg #[.int .i64 r.Gi,.int .i64 r.Gh,.int .i64 r.Gc,.int .i64 r.Gg,.string r.tag,.string r.near,.string r.sep,.slice np nl.length nc,.slice jp jl.length jc],.agg #[.string d.name,.int .u64 d.id,.int .i64 d.first,.int .i64 d.Gc,.bool d.closed,.bool d.missing,.slice tp d.tags.length tc]] w (iI (jV d) w):=by
 obtain ⟨hat,hb⟩:=nM w r np jp nc jc nl jl d tp tc;have HAT:=aa hat;clear hat;have HB:=aa hb;clear hb;have HR:Hid (jV d=(!d.closed&&!d.missing)):=aa rfl;go_enter Tryz.func51,Tryz.ntmps51
 go_upto_region 1 with (fail)
 generalize hW1:World.alloc (World.alloc w _) _=W1 at *;clear hW1;have dL:=HAT.out.dc;have d0:=dL 0 _ rfl;have d1:=dL 1 _ rfl;have d2:=dL 2 _ rfl;have d3:=dL 3 _ rfl;have d4:=dL 4 _ rfl;have d5:=dL 5 _ rfl;have d6:=dL 6 _ rfl;clear dL;cases hc:d.closed with
 | true =>
  rw [hc] at d4 HR;go_wp2;go_ret;exact ⟨by rw [HR.out];rfl,HB.out⟩
 | false =>
  rw [hc] at d4 HR;cases hm:d.missing with
  | true =>
   rw [hm] at d5 HR;go_wp2;go_ret;exact ⟨by rw [HR.out];rfl,HB.out⟩
  | false =>
   rw [hm] at d5 HR;go_wp2;go_ret;exact ⟨by rw [HR.out];rfl,HB.out⟩
theorem zl {ok:Nat→Prop}(r:aY)(np jp:Option Addr)(nc jc:Nat)(nl jl:List ByteArray)(d:az)(tp:Option Addr)(tc:Nat)(w:World)(ht:RdS aF 1 ok w [.slice tp d.tags.length tc] d.tags)(htl:d.tags.length≤1000000) :
  Calls Tryz.prog 52 #[.agg #[.int .i64 r.Gi,.int .i64 r.Gh,.int .i64 r.Gc,.int .i64 r.Gg,.string r.tag,.string r.near,.string r.sep,.slice np nl.length nc,.slice jp jl.length jc],.agg #[.string d.name,.int .u64 d.id,.int .i64 d.first,.int .i64 d.Gc,.bool d.closed,.bool d.missing,.slice tp d.tags.length tc]] w (iI (jG r.tag d) w):=by
 obtain ⟨hat,hb⟩:=nM w r np jp nc jc nl jl d tp tc;have HAT:=aa hat;clear hat;have HB:=aa hb;clear hb;have HT:=aa ((RdS.moves aF.moves).mv (Mv.of HB.out) ht);clear ht;have HR:Hid (jG r.tag d=(r.tag.toList.isEmpty||bI d.tags r.tag)):=aa rfl;go_enter Tryz.func52,Tryz.ntmps52
 go_upto_region 1 with (fail)
 generalize hW1:World.alloc (World.alloc w _) _=W1 at *;clear hW1;have dL:=HAT.out.dc;have d6:=dL 6 _ rfl;clear dL;have jL:=HAT.out.jc;have j4:=jL 4 _ rfl;clear jL;have HC:=aa (eT d.tags r.tag _ W1 HT.out htl);clear HT;cases hte:r.tag.toList.isEmpty with
 | true =>
  rw [hte] at HR;go_wp2;go_ret;exact ⟨by rw [HR.out];rfl,HB.out⟩
 | false =>
  rw [hte] at HR
  go_wp2_with (refine HC.out.mono ?_;rintro e w5 ⟨rfl,rfl⟩)
  go_ret;exact ⟨by rw [HR.out];rfl,HB.out⟩
theorem yM {ok:Nat→Prop}(r:aY)(np jp:Option Addr)(nc jc:Nat)(nl jl:List ByteArray)(d:az)(tp:Option Addr)(tc:Nat)(w:World)(hn:RdS aF 1 ok w [.slice np nl.length nc] nl)(hnl:nl.length≤1000000) :
  Calls Tryz.prog 53 #[.agg #[.int .i64 r.Gi,.int .i64 r.Gh,.int .i64 r.Gc,.int .i64 r.Gg,.string r.tag,.string r.near,.string r.sep,.slice np nl.length nc,.slice jp jl.length jc],.agg #[.string d.name,.int .u64 d.id,.int .i64 d.first,.int .i64 d.Gc,.bool d.closed,.bool d.missing,.slice tp d.tags.length tc]] w (iI (nN nl r.Gg d) w):=by
 obtain ⟨hat,hb⟩:=nM w r np jp nc jc nl jl d tp tc;have HAT:=aa hat;clear hat;have HB:=aa hb;clear hb;have HT:=aa ((RdS.moves aF.moves).mv (Mv.of HB.out) hn);clear hn;have HR:Hid (nN nl r.Gg d=(!(r.Gg == 2)||bI nl d.name)):=aa rfl;go_enter Tryz.func53,Tryz.ntmps53
 go_upto_region 1 with (fail)
 generalize hW1:World.alloc (World.alloc w _) _=W1 at *;clear hW1;have dL:=HAT.out.dc;have d0:=dL 0 _ rfl;clear dL;have jL:=HAT.out.jc;have j3:=jL 3 _ rfl;have j7:=jL 7 _ rfl;clear jL;have HC:=aa (eT nl d.name _ W1 HT.out hnl);clear HT;cases hp:(r.Gg == 2) with
 | false =>
  have hpn:(r.Gg != 2)=true:=by simpa [bne] using hp
  rw [hp] at HR;go_wp2;go_ret;exact ⟨by rw [HR.out];rfl,HB.out⟩
 | true =>
  have hpn:(r.Gg != 2)=false:=by simpa [bne] using hp
  rw [hp] at HR
  go_wp2_with (refine HC.out.mono ?_;rintro e w5 ⟨rfl,rfl⟩)
  go_ret;exact ⟨by rw [HR.out];rfl,HB.out⟩
theorem wL {ok:Nat→Prop}(x:ByteArray)(Bj:Nat)(jp:Option Addr)(jc:Nat)(jl:List ByteArray)(w:World)(h8:w.cell? ⟨Bj,8,none⟩=some (.slice jp jl.length jc))(hj:RdS aF 1 ok w [.slice jp jl.length jc] jl)(hjl:jl.length≤1000000) :
  Calls Tryz.prog 105 #[.string x,.pointer (some ⟨Bj,0,none⟩)] w fun e w'=>e=.returned (.bool (bI jl x))∧w=w':=by
 have HC:=aa (eT jl x _ w hj hjl);clear hj;go_enter Tryz.func105,Tryz.ntmps105
 go_wp2_with (refine HC.out.mono ?_;rintro e w5 ⟨rfl,rfl⟩)
 go_ret;exact ⟨rfl,rfl⟩
theorem pG {ok ok':Nat→Prop}(l:List ByteArray)(v:Value)(Bj:Nat)(jp:Option Addr)(jc:Nat)(jl:List ByteArray)(w:World)(h:RdS aF 1 ok w [v] l)(hl:l.length≤1000000)(h8:w.cell? ⟨Bj,8,none⟩=some (.slice jp jl.length jc))(hj:RdS aF 1 ok' w [.slice jp jl.length jc] jl)(hjl:jl.length≤1000000) :
  Calls Tryz.prog 162 #[v,.func (.func 105) #[] #[.pointer (some ⟨Bj,0,none⟩)]] w fun e w'=>(∃ r:Int,e=.returned (.int .i64 r)∧decide (0≤r)=l.any (bI jl))∧w=w':=by
 obtain ⟨p,cap,rfl,hc1,hc2⟩:=h.cap;have HH:=aa h;clear h;have HC:=aa (fun x=>wL (ok:=ok') x Bj jp jc jl w h8 hj hjl);clear h8 hj hjl;go_enter Tryz.func162,Tryz.ntmps162;go_wp2
 go_loop [8,5] (fun i _=>∃ k:Nat,k≤l.length∧i=.int .i64 k∧(l.take k).any (bI jl)=false) (fun i _=>l.length - (intOf i).toNat)
 case atStart=>exact ⟨0,Nat.zero_le _,rfl,rfl⟩
 case round =>
  obtain ⟨k,hk,rfl,hall⟩:=hrel;have HALL:=aa hall;clear hall
  by_cases hlt:k<l.length
  ·obtain ⟨y,hy⟩:=aj l k hlt
   obtain ⟨b,off,us,rfl,hob,hbw,hul,hvs,hcv⟩:=HH.out.elem hy;obtain rfl:us=_:=hvs;have q0:=hcv 0 _ rfl;rw [Nat.mul_one,Nat.add_zero] at q0;have HANY:Hid ((l.take (k+1)).any (bI jl)=bI jl y):=aa (by rw [take_snoc' l k y hy,List.any_append,HALL.out];simp);have HANY2:Hid (bI jl y=true→l.any (bI jl)=true):=aa fun h=>List.any_eq_true.2 ⟨y,List.mem_of_getElem? hy,h⟩;clear hy HALL hcv hul;have HCY:=aa (HC.out y);cases hs:bI jl y with
   | true =>
    rw [hs] at HCY;have HR:=aa (HANY2.out hs);clear hs
    go_wp2_with (refine HCY.out.mono ?_;rintro e w5 ⟨rfl,rfl⟩)
    go_ret;exact ⟨⟨k,rfl,by rw [HR.out];simp⟩,rfl⟩
   | false =>
    rw [hs] at HCY;have HR:=aa (HANY.out.trans hs);clear hs
    go_wp2_with (refine HCY.out.mono ?_;rintro e w5 ⟨rfl,rfl⟩)
    go_round
    case rel=>exact ⟨k+1,by omega,by go_num,HR.out⟩
    case measure=>simp [intOf];omega
  ·obtain rfl:k=l.length:=by omega
   rw [List.take_length] at HALL;go_wp2;go_ret;exact ⟨⟨-1,rfl,by rw [HALL.out];rfl⟩,rfl⟩
theorem mg {ok ok':Nat→Prop}(l:List ByteArray)(v:Value)(Bj:Nat)(jp:Option Addr)(jc:Nat)(jl:List ByteArray)(w:World)(h:RdS aF 1 ok w [v] l)(hl:l.length≤1000000)(h8:w.cell? ⟨Bj,8,none⟩=some (.slice jp jl.length jc))(hj:RdS aF 1 ok' w [.slice jp jl.length jc] jl)(hjl:jl.length≤1000000) :
  Calls Tryz.prog 104 #[v,.func (.func 105) #[] #[.pointer (some ⟨Bj,0,none⟩)]] w fun e w'=>e=.returned (.bool (l.any (bI jl)))∧w=w':=by
 go_enter Tryz.func104,Tryz.ntmps104
 go_wp2_with fail
 refine (pG (ok:=ok) (ok':=ok') l v Bj jp jc jl w h hl h8 hj hjl).mono ?_;rintro e w2 ⟨⟨r,rfl,hr2⟩,rfl⟩;have HR:=aa hr2;clear hr2;go_wp2;go_ret;exact ⟨ah HR.out,rfl⟩
theorem ym {ok ok' ok2:Nat→Prop}(r:aY)(np jp:Option Addr)(nc jc:Nat)(nl jl:List ByteArray)(d:az)(tp:Option Addr)(tc:Nat)(w:World)(hn:RdS aF 1 ok w [.slice np nl.length nc] nl)(hnl:nl.length≤1000000)(ht:RdS aF 1 ok' w [.slice tp d.tags.length tc] d.tags)(htl:d.tags.length≤1000000)(hj:RdS aF 1 ok2 w [.slice jp jl.length jc] jl)(hjl:jl.length≤1000000) :
  Calls Tryz.prog 54 #[.agg #[.int .i64 r.Gi,.int .i64 r.Gh,.int .i64 r.Gc,.int .i64 r.Gg,.string r.tag,.string r.near,.string r.sep,.slice np nl.length nc,.slice jp jl.length jc],.agg #[.string d.name,.int .u64 d.id,.int .i64 d.first,.int .i64 d.Gc,.bool d.closed,.bool d.missing,.slice tp d.tags.length tc]] w (iI (vE nl jl r.Gg d) w):=by
 obtain ⟨hat,hb⟩:=nM w r np jp nc jc nl jl d tp tc;have HAT:=aa hat;clear hat;have HB:=aa hb;clear hb;have HN:=aa ((RdS.moves aF.moves).mv (Mv.of HB.out) hn);clear hn;have HT:=aa ((RdS.moves aF.moves).mv (Mv.of HB.out) ht);clear ht;have HJ:=aa ((RdS.moves aF.moves).mv (Mv.of HB.out) hj);clear hj;have HR:Hid (vE nl jl r.Gg d=(!(r.Gg == 3)||(bI nl d.name||d.tags.any (bI jl)))):=aa rfl;go_enter Tryz.func54,Tryz.ntmps54
 go_upto_region 1 with (fail)
 generalize hW1:World.alloc (World.alloc w _) _=W1 at *;clear hW1;have dL:=HAT.out.dc;have d0:=dL 0 _ rfl;have d6:=dL 6 _ rfl;clear dL;have jL:=HAT.out.jc;have j3:=jL 3 _ rfl;have j7:=jL 7 _ rfl;have j8:=jL 8 _ rfl;clear jL;have HC:=aa (eT nl d.name _ W1 HN.out hnl);have HD:=aa (mg d.tags _ w.heap.size jp jc jl W1 HT.out htl j8 HJ.out hjl);clear HN HT HJ j8;cases hp:(r.Gg == 3) with
 | false =>
  have hpn:(r.Gg != 3)=true:=by simpa [bne] using hp
  rw [hp] at HR;go_wp2;go_ret;exact ⟨by rw [HR.out];rfl,HB.out⟩
 | true =>
  have hpn:(r.Gg != 3)=false:=by simpa [bne] using hp
  rw [hp] at HR;cases hh:bI nl d.name with
  | true =>
   rw [hh] at HC HR
   go_wp2_with (refine HC.out.mono ?_;rintro e w5 ⟨rfl,rfl⟩)
   go_ret;exact ⟨by rw [HR.out];rfl,HB.out⟩
  | false =>
   rw [hh] at HC HR
   go_wp2_with (first | (refine HC.out.mono ?_;rintro e w5 ⟨rfl,rfl⟩) | (refine HD.out.mono ?_;rintro e w5 ⟨rfl,rfl⟩))
   go_ret;exact ⟨by rw [HR.out];rfl,HB.out⟩
def iC (B:Nat)(w:World)(v:Value)(l:List aR):Prop:=bF aQ 3 60 B (fun _=>False) w v l
theorem iC.nil (B:Nat)(w:World):iC B w (.slice none 0 0) []:=⟨[],World.ownsRow_nil _ _ _ 3,rfl⟩
theorem iC.keep {B:Nat}{w w':World}{v:Value}{l:List aR}(h:iC B w v l)(hz:w.heap.size≤w'.heap.size)(hk:∀ k,v.ownBlock=some k→w'.heap[k]?=w.heap[k]?):iC B w' v l:=by
 obtain ⟨cs,ho,hf⟩:=h;exact ⟨cs,aC ho hk,Flat.moves aQ.moves ⟨hz,fun b _ f=>f.elim⟩ _ _ hf⟩
theorem iC.below {B:Nat}{w w':World}{v:Value}{l:List aR}(h:iC B w v l)(hb:Below w.heap.size w w'):iC B w' v l:=by
 refine h.keep hb.size fun k e=>hb.block k ?_;obtain ⟨cs,ho,_⟩:=h;exact (ho.lt k e).2
theorem iC.notSeg {B k:Nat}{w:World}{v:Value}{l:List aR}{cs:Array Value}{z:Nat × Nat}(h:iC B w v l)(hk:w.heap[k]?=some (.cells cs 79 z)):v.ownBlock≠some k:=fun e=>by
 obtain ⟨_,ho,_⟩:=h;rcases ho.2 with ⟨rfl,_⟩ | ⟨g,cap,cur,rfl,_,hgg,_⟩
 ·cases e
 ·obtain rfl:g=k:=by injection e
  rw [hk] at hgg;injection hgg with hgg
  injection hgg with _ hgg _
  cases hgg
theorem iC.ge {B k:Nat}{w:World}{v:Value}{l:List aR}(h:iC B w v l)(e:v.ownBlock=some k):B≤k∧k<w.heap.size:=by
 obtain ⟨cs,ho,_⟩:=h;exact ho.lt k e
theorem iC.mono {B B':Nat}{w:World}{v:Value}{l:List aR}(h:iC B w v l)(hB:B'≤B):iC B' w v l:=by
 obtain ⟨cs,⟨h1,h2⟩,hf⟩:=h;refine ⟨cs,⟨h1,?_⟩,hf⟩;rcases h2 with hn | ⟨g,cap,cur,hv,hbb,r⟩
 ·exact .inl hn
 ·exact .inr ⟨g,cap,cur,hv,by omega,r⟩
def kJ (s:aB)(a:aR):aR:=⟨false,a.on,a.start+iB s.kind s.length s.Ga.length⟩
theorem rF (Q:Exit→Act→World→Prop)(c0 c1 c2 c3 c4 c5 c6 c9 c11 c12 c13 c14 c15 c16 c17 c18 c19 c20 c21 c22 c23 c24 c25 c26 c27 c28 c29 c30 c31 c32 c33 c34 c35 c36 c37 c38 c39 c40 c41 c42 c43 c44 c45 c46 c47 c48 c49 c50 c51 c52 c53 c54 c55 c56 c57 c58 c59:Value)(w:World)(B Bs Ba:Nat)(ap stp:Option Addr)(ac stc:Nat)(s:aB)(a:aR)(v8:Value)(l:List aR)
  (hB:B≤w.heap.size) (hal:s.Ga.length≤1000) (hll:l.length≤100000) (hlen:0≤s.length∧s.length≤1000000) (hst:0≤a.start∧a.start≤1000000)
  (hs:w.heap[Bs]?=some (.cells #[.int .i64 s.start,.int .i64 s.length,.int .i64 s.kind,.slice ap s.Ga.length ac,.int .i64 s.chunk,.slice stp s.stale.length stc,.string s.log,.string s.pool,.int .i64 s.device,.int .i64 s.mode,.int .i64 s.done] 79 (0,0))) (hba:Ba<w.heap.size) (ha1:w.cell? ⟨Ba,1,none⟩=some (.string a.on)) (ha2:w.cell? ⟨Ba,2,none⟩=some (.int .i64 a.start))
  (hO:iC B w v8 l)
  (HK:Hid (∀ (v':Value) (w':World) (u47 u48 u49 u50 u51 u52 u53 u54 u55 u56 u57:Value),iC B w' v' (l++[kJ s a])→Below B w w'→w'.heap[Bs]?=w.heap[Bs]?→Q .normal ⟨#[c0,c1,c2,c3,c4,c5,c6,.pointer (some ⟨Bs,0,none⟩),v',c9,.pointer (some ⟨Ba,0,none⟩),c11,c12,c13,c14,c15,c16,c17,c18,c19,c20,c21,c22,c23,c24,c25,c26,c27,c28,c29,c30,c31,c32,c33,c34,c35,c36,c37,c38,c39,c40,c41,c42,c43,c44,c45,c46,u47,u48,u49,u50,u51,u52,u53,u54,u55,u56,u57,c58,c59],[]⟩ w'))
  (hQ:∀ c (a:Act) (d:Tmp) (v:Value) w,Q (.panic c) (a.put (some d) v) w→Q (.panic c) a w) :
  (Ai Tryz.f109 12).wp Tryz.prog Q ⟨#[c0,c1,c2,c3,c4,c5,c6,.pointer (some ⟨Bs,0,none⟩),v8,c9,.pointer (some ⟨Ba,0,none⟩),c11,c12,c13,c14,c15,c16,c17,c18,c19,c20,c21,c22,c23,c24,c25,c26,c27,c28,c29,c30,c31,c32,c33,c34,c35,c36,c37,c38,c39,c40,c41,c42,c43,c44,c45,c46,c47,c48,c49,c50,c51,c52,c53,c54,c55,c56,c57,c58,c59],[]⟩ w:=by
 conv=>arg 2;whnf
 have hsl:=lt_of_block hs
 have sL:∀ (j:Nat) (z:Value),[.int .i64 s.start,.int .i64 s.length,.int .i64 s.kind,.slice ap s.Ga.length ac,.int .i64 s.chunk,.slice stp s.stale.length stc,.string s.log,.string s.pool,.int .i64 s.device,.int .i64 s.mode,.int .i64 s.done][j]?=some z→∀ q:fo,(ext w q).cell? ⟨Bs,j,none⟩=some z:=fun j z hz=>aG hsl (by
  simp only [World.cell?,hs]
  simpa using hz)
 have s0:=sL 0 _ rfl;have s1:=sL 1 _ rfl;have s2:=sL 2 _ rfl;have s3:=sL 3 _ rfl;have s4:=sL 4 _ rfl;have s5:=sL 5 _ rfl;have s6:=sL 6 _ rfl;have s7:=sL 7 _ rfl;have s8:=sL 8 _ rfl;have s9:=sL 9 _ rfl;have s10:=sL 10 _ rfl;have a1:=aG hba ha1;have a2:=aG hba ha2;have HO:=aa hO;clear hO;have HS:=aa hs;clear hs;have hlen1:=hlen.1;have hlen2:=hlen.2;have hst1:=hst.1;have hst2:=hst.2
 have he0:0≤iB s.kind s.length s.Ga.length:=by
  unfold iB;split
  ·exact Int.ediv_nonneg hlen1 (by omega)
  ·exact hlen1
 have he1:iB s.kind s.length s.Ga.length≤1000000:=by
  unfold iB;split
  ·exact Int.le_trans (Int.ediv_le_self _ hlen1) hlen2
  ·exact hlen2
 obtain ⟨i0,hi,hz0,hz1,hz2⟩:=info_parts kL;have HI:=aa hi;clear hi;have H0:=aa hz0;clear hz0;have H1:=aa hz1;clear hz1;have H2:=aa hz2;clear hz2;have HEA:Hid (kJ s a=⟨false,a.on,a.start+iB s.kind s.length s.Ga.length⟩):=aa rfl;have HEX:=aa (fun w':World=>ji s.start s.length s.kind s.chunk s.device s.mode s.done ap stp s.Ga.length ac s.stale.length stc s.log s.pool w' hlen1 (by omega) (by omega));generalize hex:iB s.kind s.length s.Ga.length=ex at *;have hwr:IntKind.i64.wrap (a.start+ex)=a.start+ex:=IntWalk.i64_in _ (by omega);clear sL ha1 ha2 hlen hst hex
 (refine lG _ 8 (by kernel_rfl) rfl rfl (by kernel_rfl) (by kernel_rfl) (fun _ _ _ _ h=>hQ _ _ _ _ _ h) (by go_simp;rfl) ?_;simp only [List.take_succ_cons,List.take_zero,List.drop_succ_cons,List.drop_zero])
 repeat (go_big_quiet_step ((go_at_call 144;exact iH (HEX.out _))))
 with_reducible refine wpQuiet_nil ?_
 intro wq hwq;have hbq:=dY hwq;clear hwq s0 s1 s2 s3 s4 s5 s6 s7 s8 s9 s10 a1 a2 HEX;have hO2:=HO.out.below hbq;have hbA:=ae wq (.cells #[.bool false,.string a.on,.int .i64 (a.start+ex)] 60);have hO3:=hO2.below hbA;have HO3:=aa hO3;have HBA:=aa hbA;have HBQ:=aa hbq;have hBq:=Nat.le_trans hB hbq.size;clear hO2 hO3 hbA hbq
 go_wp2_with (at_builtin;refine dX aQ.moves Tryz.underlying57 HI.out H0.out H1.out H2.out rfl (by decide) (by decide) rfl _ _ rfl B (fun _=>False) v8 l ⟨false,a.on,a.start+ex⟩ rfl HO3.out wq.heap.size 1 [.bool false,.string a.on,.int .i64 (a.start+ex)] rfl rfl rfl ?d3 ?d4 ?d5 ?d6 (fun _ _ f=>f) ?_)
 all_goals first | (case d3=>(simp [Value.oneCell'])) | (case d4=>(intro j y hy;exact aD rfl (by simpa using hy))) | (case d5=>omega) | (case d6=>omega) | (case d6=>simp only [World.size_alloc];omega) | skip
 intro gb cap w3 hp;have hkeep:∀ j,j<w.heap.size→v8.ownBlock≠some j→w3.heap[j]?=w.heap[j]?:=fun j hj hne=>(hp.grown.block j (Nat.lt_of_lt_of_le hj (Nat.le_trans HBQ.out.size HBA.out.size)) (fun e=>hne e.symm)).trans ((HBA.out.block j (Nat.lt_of_lt_of_le hj HBQ.out.size)).trans (HBQ.out.block j hj));have hbel:Below B w w3:=((HBQ.out.mono hB).trans (HBA.out.mono hBq)).grown hp.grown (by simp only [World.size_alloc];omega) (fun j e=>(HO3.out.ge e).1);have hS:=hkeep Bs hsl (HO.out.notSeg HS.out);have hOw:=hp.own;rw [← HEA.out] at hOw;have HOW:=aa hOw;have HBEL:=aa hbel;have HSS:=aa hS;clear hp hOw hbel hS hkeep;go_wp2;exact HK.out _ _ _ _ _ _ _ _ _ _ _ _ _ HOW.out HBEL.out HSS.out
def D7 (w:World)(l:List (ByteArray × Int))(e:Ending)(w':World):Prop:=∃ v,e=.returned v∧iC w.heap.size w' v (l.map fun x=>⟨false,x.1,x.2⟩)∧Below w.heap.size w w'
theorem yg {l:List aB}(h:l=[]):oZ l=[]:=by subst h;rfl
theorem Dn {l:List aB}{s:aB}(hl:0<l.length)(h:l[l.length - 1]?=some s):oZ l=if s.kind=1∨s.kind=2 then qN s else []:=by
 unfold oZ;rw [List.getLast?_eq_getElem?,h]
theorem Cr {ok:Nat→Prop}(g:af)(a:bN)(nm:ByteArray)(w:World)(hr:RdS aN 6 ok w [.slice a.vp g.F9.length a.vc] g.F9)(hz:GSz g)(ht:qx g.F9)(hps:∀ v∈g.F9,∀ s∈v.Gf,fP s→∀ a∈s.Ga,0≤a.start∧a.start≤1000000) :
  Calls Tryz.prog 109 #[.agg #[.string g.name,.int .u64 g.id,.int .i64 g.seq,.int .i64 g.Gd,.int .i64 g.next,.slice a.tp g.tags.length a.tc,.slice a.dp g.Gb.length a.dc,.slice a.vp g.F9.length a.vc,.slice a.hp g.history.length a.hc],.string nm] w (D7 w (jE g nm)):=by
 have HG:=aa hr;clear hr;have HZ:=aa hz;clear hz;have hA1:=ae w (.cells #[.string g.name,.int .u64 g.id,.int .i64 g.seq,.int .i64 g.Gd,.int .i64 g.next,.slice a.tp g.tags.length a.tc,.slice a.dp g.Gb.length a.dc,.slice a.vp g.F9.length a.vc,.slice a.hp g.history.length a.hc] 31);have HB1:=aa hA1;clear hA1;have HBg:=aa (heap_alloc_new w (.cells #[.string g.name,.int .u64 g.id,.int .i64 g.seq,.int .i64 g.Gd,.int .i64 g.next,.slice a.tp g.tags.length a.tc,.slice a.dp g.Gb.length a.dc,.slice a.vp g.F9.length a.vc,.slice a.hp g.history.length a.hc] 31))
 have gL:∀ (i:Nat) (z:Value),[.string g.name,.int .u64 g.id,.int .i64 g.seq,.int .i64 g.Gd,.int .i64 g.next,.slice a.tp g.tags.length a.tc,.slice a.dp g.Gb.length a.dc,.slice a.vp g.F9.length a.vc,.slice a.hp g.history.length a.hc][i]?=some z→(w.alloc (.cells #[.string g.name,.int .u64 g.id,.int .i64 g.seq,.int .i64 g.Gd,.int .i64 g.next,.slice a.tp g.tags.length a.tc,.slice a.dp g.Gb.length a.dc,.slice a.vp g.F9.length a.vc,.slice a.hp g.history.length a.hc] 31)).cell? ⟨w.heap.size,i,none⟩=some z:=fun i z hz=>by
  simp only [World.cell?,HBg.out];simpa using hz
 go_enter Tryz.func109,Tryz.ntmps109
 go_upto_region 1 with (fail)
 generalize hW1:World.alloc w _=W1 at *;have g0:=gL 0 _ rfl;have g1:=gL 1 _ rfl;have g2:=gL 2 _ rfl;have g3:=gL 3 _ rfl;have g4:=gL 4 _ rfl;have g5:=gL 5 _ rfl;have g6:=gL 6 _ rfl;have g7:=gL 7 _ rfl;have g8:=gL 8 _ rfl;clear gL hW1;have HCV:=aa (fA (ok:=fun b=>ok b∧b<w.heap.size) g a nm W1 ((RdS.moves aN.moves).mv ⟨HB1.out.size,fun b hb ho=>⟨⟨ho,hb⟩,HB1.out.block b hb⟩⟩ HG.out) HZ.out.vl HZ.out.vz)
 go_wp2_with fail
 clear g0 g1 g2 g3 g4 g5 g6 g7 g8;refine HCV.out.mono ?_;clear HCV;rintro e w2 ⟨u,rfl,hvv,hb2⟩
 have hvs:((aM g.F9 nm).getD eY).Gf.length≤1000∧∀ s∈((aM g.F9 nm).getD eY).Gf,((0≤s.length∧s.length≤1000000)∧s.Ga.length≤1000∧(fP s→∀ a∈s.Ga,a.vol=false))∧(fP s→∀ a∈s.Ga,0≤a.start∧a.start≤1000000):=by
  cases hf:aM g.F9 nm with
  | none=>simp [eY]
  | some v =>
   have hv:=List.mem_of_find?_eq_some hf;exact ⟨(ht v hv).1,fun s hs=>⟨(ht v hv).2 s hs,hps v hv s hs⟩⟩
 have HVS:=aa hvs.2;have hvl:=hvs.1;have HEL:Hid (jE g nm=oZ ((aM g.F9 nm).getD eY).Gf):=aa rfl;generalize (aM g.F9 nm).isSome=isn at *;generalize hv:(aM g.F9 nm).getD eY=v at *;have HB2:=aa (HB1.out.trans (hb2.mono HB1.out.size));obtain ⟨tv,sv,rfl,htr,hsr⟩:=hvv;obtain ⟨tp,tc,rfl,_,_⟩:=htr.cap;obtain ⟨sp,sc,rfl,hsc1,hsc2⟩:=hsr.cap;clear htr hb2 hv hvs ht hps;have hA:=ae w2 (.cells #[.string v.name,.int .u64 v.id,.bool v.hidden,.bool v.ro,.slice tp v.tags.length tc,.slice sp v.Gf.length sc] 55);have HBv:=aa (heap_alloc_new w2 (.cells #[.string v.name,.int .u64 v.id,.bool v.hidden,.bool v.ro,.slice tp v.tags.length tc,.slice sp v.Gf.length sc] 55));have HB3:=aa (HB2.out.trans (hA.mono HB2.out.size));have HSR:=aa ((RdS.moves bC.moves).mv (Mv.of hA) hsr);clear hsr hA HB2
 go_upto_region 2 with (fail)
 generalize hW3:World.alloc w2 _=W3 at *;generalize hBv:w2.heap.size=Bv at *;clear hW3;have v5:W3.cell? ⟨Bv,5,none⟩=some (.slice sp v.Gf.length sc):=by simp [World.cell?,HBv.out]
 by_cases h0:v.Gf.length=0
 ·have HE:Hid (oZ v.Gf=[]):=aa (yg (List.eq_nil_of_length_eq_zero h0))
  go_wp2;go_ret;exact ⟨_,rfl,by rw [HEL.out,HE.out];exact iC.nil _ _,HB3.out⟩
 ·obtain ⟨s,hs⟩:=aj v.Gf (v.Gf.length - 1) (by omega)
  have HE:=aa (Dn (by omega) hs);obtain ⟨b,off,us,hsp,hob,hbw,hul,hvs,hcv⟩:=HSR.out.elem hs;subst hsp;have HQS:=aa (HVS.out s (List.mem_of_getElem? hs));obtain ⟨av,stv,rfl,har,hst⟩:=hvs;obtain ⟨ap,ac,rfl,_,_⟩:=har.cap;obtain ⟨stp,stc,rfl,_,_⟩:=hst.cap;have hbk:W3.heap[b]?=W3.heap[b]?:=rfl;have q0:=bK hbk (hcv 0 _ rfl);have q1:=ai hbk (hcv 1 _ rfl);have q2:=ai hbk (hcv 2 _ rfl);have q3:=ai hbk (hcv 3 _ rfl);have q4:=ai hbk (hcv 4 _ rfl);have q5:=ai hbk (hcv 5 _ rfl);have q6:=ai hbk (hcv 6 _ rfl);have q7:=ai hbk (hcv 7 _ rfl);have q8:=ai hbk (hcv 8 _ rfl);have q9:=ai hbk (hcv 9 _ rfl);have q10:=ai hbk (hcv 10 _ rfl);have hcast:((v.Gf.length:Int) - 1)=((v.Gf.length - 1:Nat):Int):=by omega
  clear hs hcv hul hbk hst HVS;have hA:=ae W3 (.cells #[.int .i64 s.start,.int .i64 s.length,.int .i64 s.kind,.slice ap s.Ga.length ac,.int .i64 s.chunk,.slice stp s.stale.length stc,.string s.log,.string s.pool,.int .i64 s.device,.int .i64 s.mode,.int .i64 s.done] 79);have HBs:=aa (heap_alloc_new W3 (.cells #[.int .i64 s.start,.int .i64 s.length,.int .i64 s.kind,.slice ap s.Ga.length ac,.int .i64 s.chunk,.slice stp s.stale.length stc,.string s.log,.string s.pool,.int .i64 s.device,.int .i64 s.mode,.int .i64 s.done] 79));have HB4:=aa (HB3.out.trans (hA.mono HB3.out.size));have HAR:=aa ((RdS.moves aQ.moves).mv (Mv.of hA) har);clear har hA HB3
  go_upto_region 4 with (fail)
  go_upto_region 5 with (fail)
  generalize hW4:World.alloc W3 _=W4 at *;generalize hBs:W3.heap.size=Bs at *;clear hW4 q0 q1 q2 q3 q4 q5 q6 q7 q8 q9 q10 v5;have s2:W4.cell? ⟨Bs,2,none⟩=some (.int .i64 s.kind):=by simp [World.cell?,HBs.out]
  have s3:W4.cell? ⟨Bs,3,none⟩=some (.slice ap s.Ga.length ac):=by simp [World.cell?,HBs.out]
  by_cases hk:s.kind=1∨s.kind=2
  ·have HE2:Hid (jE g nm=qN s):=aa (by rw [HEL.out,HE.out,if_pos hk])
   have hod:fP s:=by rcases hk with q | q;exact .inl q;exact .inr (.inl q)
   have HVL:=aa (HQS.out.1.2.2 hod);have HPS:=aa (HQS.out.2 hod);have hal:=HQS.out.1.2.1;have HLN:=aa HQS.out.1.1;clear HE HEL HQS hod;have hup:∃ P:Prop,P:=⟨True,trivial⟩
   have key:(s.kind != 1)=false∨((s.kind != 1)=true∧(s.kind != 2)=false):=by
    rcases hk with q | q
    ·exact .inl (by simp [q])
    ·exact .inr ⟨by simp [q],by simp [q]⟩
   clear hk hup;have HSZ:Hid (w.heap.size≤W4.heap.size):=aa HB4.out.size;rcases key with n1 | ⟨n1,n2⟩
   ·go_upto_region 8 with (fail)
    clear n1 s2
    go_upto_region 9 with (fail)
    clear s3
    go_loopw [8,40] (fun lv i wr=>∃ k:Nat,k≤s.Ga.length∧i=.int .i64 k∧iC W4.heap.size wr lv ((s.Ga.take k).map (kJ s))∧Below W4.heap.size W4 wr) (fun _ i _=>s.Ga.length - (intOf i).toNat)
    case atStart=>exact ⟨0,Nat.zero_le _,rfl,iC.nil _ _,Below.refl _ _⟩
    case round =>
     obtain ⟨k,hk,rfl,hown,hB⟩:=hrel;have HOW:=aa hown;clear hown;have HB:=aa hB;clear hB
     by_cases hlt:k<s.Ga.length
     ·obtain ⟨x,hx⟩:=aj s.Ga k hlt
      obtain ⟨b3,off3,us3,hsp3,hob3,hbw3,hul3,hvs3,hcv3⟩:=HAR.out.elem hx;subst hsp3;obtain rfl:us3=_:=hvs3;have hbk3:wr.heap[b3]?=W4.heap[b3]?:=HB.out.block b3 hbw3;have q0:=bK hbk3 (hcv3 0 _ rfl);have q1:=ai hbk3 (hcv3 1 _ rfl);have q2:=ai hbk3 (hcv3 2 _ rfl);have HTS:Hid ((s.Ga.take (k+1)).map (kJ s)=(s.Ga.take k).map (kJ s)++[kJ s x]):=aa (by rw [take_snoc' s.Ga k x hx,List.map_append];rfl);have hvol:=HVL.out x (List.mem_of_getElem? hx);have hst:=HPS.out x (List.mem_of_getElem? hx);clear hx hcv3 hul3 hbk3;rw [hvol] at q0;have hwz:=HB.out.size;have hA:=ae wr (.cells #[.bool false,.string x.on,.int .i64 x.start] 60);have HBa:=aa (heap_alloc_new wr (.cells #[.bool false,.string x.on,.int .i64 x.start] 60));have HB2:=aa (HB.out.trans (hA.mono hwz));have HOW2:=aa (HOW.out.below hA);clear hA
      go_upto_region 11 with (fail)
      clear q0 q1 q2;generalize hW5:World.alloc wr _=W5 at *;generalize hBa:wr.heap.size=Ba at *;clear hW5 HB HOW;have a0:W5.cell? ⟨Ba,0,none⟩=some (.bool false):=by simp [World.cell?,HBa.out]
      have a1:W5.cell? ⟨Ba,1,none⟩=some (.string x.on):=by simp [World.cell?,HBa.out]
      have a2:W5.cell? ⟨Ba,2,none⟩=some (.int .i64 x.start):=by simp [World.cell?,HBa.out]
      go_upto_region 12 with (fail)
      refine rF _ _ _ _ _ _ _ _ _ _ _ _ _ _ _ _ _ _ _ _ _ _ _ _ _ _ _ _ _ _ _ _ _ _ _ _ _ _ _ _ _ _ _ _ _ _ _ _ _ _ _ _ _ _ _ _ _ _ W5 W4.heap.size Bs Ba (some ⟨b3,off3,none⟩) stp ac stc s x _ _ HB2.out.size hal (by rw [List.length_map,List.length_take];omega) HLN.out hst ((HB2.out.block _ (lt_of_block HBs.out)).trans HBs.out) (lt_of_block HBa.out) a1 a2 HOW2.out (aa ?_) ?hQ
      case hQ=>exact fun _ _ _ _ _ h=>h
      intro v' w' u47 u48 u49 u50 u51 u52 u53 u54 u55 u56 u57 ho' hb' hs';have HO':=aa ho';clear ho';have HB':=aa (HB2.out.trans hb');clear hb' hs' a0 a1 a2;go_wp2;go_roundw
      case rel=>exact ⟨k+1,by omega,by go_num,by rw [HTS.out];exact HO'.out,HB'.out⟩
      case measure=>simp [intOf];omega
     ·obtain rfl:k=s.Ga.length:=by omega
      rw [List.take_length] at HOW;have HE3:Hid ((jE g nm).map (fun x=>(⟨false,x.1,x.2⟩:aR))=s.Ga.map (kJ s)):=aa (by rw [HE2.out];unfold qN;rw [List.map_map];rfl);go_wp2;go_ret;exact ⟨_,rfl,by rw [HE3.out];exact HOW.out.mono HSZ.out,HB4.out.trans (HB.out.mono HSZ.out)⟩
   ·go_upto_region 8 with (fail)
    clear n1 n2 s2
    go_upto_region 9 with (fail)
    clear s3
    go_loopw [8,40] (fun lv i wr=>∃ k:Nat,k≤s.Ga.length∧i=.int .i64 k∧iC W4.heap.size wr lv ((s.Ga.take k).map (kJ s))∧Below W4.heap.size W4 wr) (fun _ i _=>s.Ga.length - (intOf i).toNat)
    case atStart=>exact ⟨0,Nat.zero_le _,rfl,iC.nil _ _,Below.refl _ _⟩
    case round =>
     obtain ⟨k,hk,rfl,hown,hB⟩:=hrel;have HOW:=aa hown;clear hown;have HB:=aa hB;clear hB
     by_cases hlt:k<s.Ga.length
     ·obtain ⟨x,hx⟩:=aj s.Ga k hlt
      obtain ⟨b3,off3,us3,hsp3,hob3,hbw3,hul3,hvs3,hcv3⟩:=HAR.out.elem hx;subst hsp3;obtain rfl:us3=_:=hvs3;have hbk3:wr.heap[b3]?=W4.heap[b3]?:=HB.out.block b3 hbw3;have q0:=bK hbk3 (hcv3 0 _ rfl);have q1:=ai hbk3 (hcv3 1 _ rfl);have q2:=ai hbk3 (hcv3 2 _ rfl);have HTS:Hid ((s.Ga.take (k+1)).map (kJ s)=(s.Ga.take k).map (kJ s)++[kJ s x]):=aa (by rw [take_snoc' s.Ga k x hx,List.map_append];rfl);have hvol:=HVL.out x (List.mem_of_getElem? hx);have hst:=HPS.out x (List.mem_of_getElem? hx);clear hx hcv3 hul3 hbk3;rw [hvol] at q0;have hwz:=HB.out.size;have hA:=ae wr (.cells #[.bool false,.string x.on,.int .i64 x.start] 60);have HBa:=aa (heap_alloc_new wr (.cells #[.bool false,.string x.on,.int .i64 x.start] 60));have HB2:=aa (HB.out.trans (hA.mono hwz));have HOW2:=aa (HOW.out.below hA);clear hA
      go_upto_region 11 with (fail)
      clear q0 q1 q2;generalize hW5:World.alloc wr _=W5 at *;generalize hBa:wr.heap.size=Ba at *;clear hW5 HB HOW;have a0:W5.cell? ⟨Ba,0,none⟩=some (.bool false):=by simp [World.cell?,HBa.out]
      have a1:W5.cell? ⟨Ba,1,none⟩=some (.string x.on):=by simp [World.cell?,HBa.out]
      have a2:W5.cell? ⟨Ba,2,none⟩=some (.int .i64 x.start):=by simp [World.cell?,HBa.out]
      go_upto_region 12 with (fail)
      refine rF _ _ _ _ _ _ _ _ _ _ _ _ _ _ _ _ _ _ _ _ _ _ _ _ _ _ _ _ _ _ _ _ _ _ _ _ _ _ _ _ _ _ _ _ _ _ _ _ _ _ _ _ _ _ _ _ _ _ W5 W4.heap.size Bs Ba (some ⟨b3,off3,none⟩) stp ac stc s x _ _ HB2.out.size hal (by rw [List.length_map,List.length_take];omega) HLN.out hst ((HB2.out.block _ (lt_of_block HBs.out)).trans HBs.out) (lt_of_block HBa.out) a1 a2 HOW2.out (aa ?_) ?hQ
      case hQ=>exact fun _ _ _ _ _ h=>h
      intro v' w' u47 u48 u49 u50 u51 u52 u53 u54 u55 u56 u57 ho' hb' hs';have HO':=aa ho';clear ho';have HB':=aa (HB2.out.trans hb');clear hb' hs' a0 a1 a2;go_wp2;go_roundw
      case rel=>exact ⟨k+1,by omega,by go_num,by rw [HTS.out];exact HO'.out,HB'.out⟩
      case measure=>simp [intOf];omega
     ·obtain rfl:k=s.Ga.length:=by omega
      rw [List.take_length] at HOW;have HE3:Hid ((jE g nm).map (fun x=>(⟨false,x.1,x.2⟩:aR))=s.Ga.map (kJ s)):=aa (by rw [HE2.out];unfold qN;rw [List.map_map];rfl);go_wp2;go_ret;exact ⟨_,rfl,by rw [HE3.out];exact HOW.out.mono HSZ.out,HB4.out.trans (HB.out.mono HSZ.out)⟩
  ·have HE2:Hid (jE g nm=[]):=aa (by rw [HEL.out,HE.out,if_neg hk])
   have n1:(s.kind != 1)=true:=by simp;exact fun q=>hk (.inl q)
   have n2:(s.kind != 2)=true:=by simp;exact fun q=>hk (.inr q)
   clear hk;go_wp2;go_ret;exact ⟨_,rfl,by rw [HE2.out];exact iC.nil _ _,HB4.out⟩
end Go.Proofs.YtjdfihglehfelaaGreatDoor
