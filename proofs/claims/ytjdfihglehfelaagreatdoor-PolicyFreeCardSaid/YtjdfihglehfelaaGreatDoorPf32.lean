/- Lemmas: PolB. -/
import Derived.Test.YtjdfihglehfelaaGreatDoorPf31
set_option maxRecDepth 100000
set_option maxHeartbeats 32000000
set_option linter.all false
namespace Go.Proofs.YtjdfihglehfelaaGreatDoor
open Go.Proofs.Tryz
open Go.RowKit Go.Maps Go.Shelf
def iI (b:Bool)(w:World)(e:Ending)(w':World):Prop:=e=.returned (.bool b)/\Below w.heap.size w w'
structure BC (w:World)(Bj Bd:Nat)(r:aY)(np jp:Option Addr)(nc jc:Nat)(nl jl:List ByteArray)(d:az)(tp:Option Addr)(tc:Nat):Prop where
 j:w.heap[Bj]?=some (.cells #[.int .i64 r.Gi,.int .i64 r.Gh,.int .i64 r.Gc,.int .i64 r.Gg,.string r.tag,.string r.near,.string r.sep,.slice np nl.length nc,.slice jp jl.length jc] 99 (0,0))
 d:w.heap[Bd]?=some (.cells #[.string d.name,.int .u64 d.id,.int .i64 d.first,.int .i64 d.Gc,.bool d.closed,.bool d.missing,.slice tp d.tags.length tc] 47 (0,0))
theorem BC.jc {w:World}{Bj Bd:Nat}{r:aY}{np jp:Option Addr}{nc jc:Nat}{nl jl:List ByteArray}{d:az}{tp:Option Addr}{tc:Nat}(h:BC w Bj Bd r np jp nc jc nl jl d tp tc)(i:Nat)(z:Value)(hz:[.int .i64 r.Gi,.int .i64 r.Gh,.int .i64 r.Gc,.int .i64 r.Gg,.string r.tag,.string r.near,.string r.sep,.slice np nl.length nc,.slice jp jl.length jc][i]?=some z):w.cell? ⟨Bj,i,none⟩=some z:=by
 simp only [World.cell?,h.j];simpa using hz
theorem BC.dc {w:World}{Bj Bd:Nat}{r:aY}{np jp:Option Addr}{nc jc:Nat}{nl jl:List ByteArray}{d:az}{tp:Option Addr}{tc:Nat}(h:BC w Bj Bd r np jp nc jc nl jl d tp tc)(i:Nat)(z:Value)(hz:[.string d.name,.int .u64 d.id,.int .i64 d.first,.int .i64 d.Gc,.bool d.closed,.bool d.missing,.slice tp d.tags.length tc][i]?=some z):w.cell? ⟨Bd,i,none⟩=some z:=by
 simp only [World.cell?,h.d];simpa using hz
theorem nM (w:World)(r:aY)(np jp:Option Addr)(nc jc:Nat)(nl jl:List ByteArray)(d:az)(tp:Option Addr)(tc:Nat) :
  BC ((w.alloc (.cells #[.int .i64 r.Gi,.int .i64 r.Gh,.int .i64 r.Gc,.int .i64 r.Gg,.string r.tag,.string r.near,.string r.sep,.slice np nl.length nc,.slice jp jl.length jc] 99)).alloc (.cells #[.string d.name,.int .u64 d.id,.int .i64 d.first,.int .i64 d.Gc,.bool d.closed,.bool d.missing,.slice tp d.tags.length tc] 47)) w.heap.size (w.heap.size+1) r np jp nc jc nl jl d tp tc /\
   Below w.heap.size w ((w.alloc (.cells #[.int .i64 r.Gi,.int .i64 r.Gh,.int .i64 r.Gc,.int .i64 r.Gg,.string r.tag,.string r.near,.string r.sep,.slice np nl.length nc,.slice jp jl.length jc] 99)).alloc (.cells #[.string d.name,.int .u64 d.id,.int .i64 d.first,.int .i64 d.Gc,.bool d.closed,.bool d.missing,.slice tp d.tags.length tc] 47)):=by
 have hA1:=ae w (.cells #[.int .i64 r.Gi,.int .i64 r.Gh,.int .i64 r.Gc,.int .i64 r.Gg,.string r.tag,.string r.near,.string r.sep,.slice np nl.length nc,.slice jp jl.length jc] 99);have hA2:=ae (w.alloc (.cells #[.int .i64 r.Gi,.int .i64 r.Gh,.int .i64 r.Gc,.int .i64 r.Gg,.string r.tag,.string r.near,.string r.sep,.slice np nl.length nc,.slice jp jl.length jc] 99)) (.cells #[.string d.name,.int .u64 d.id,.int .i64 d.first,.int .i64 d.Gc,.bool d.closed,.bool d.missing,.slice tp d.tags.length tc] 47);have hN1:=b9 w (.cells #[.int .i64 r.Gi,.int .i64 r.Gh,.int .i64 r.Gc,.int .i64 r.Gg,.string r.tag,.string r.near,.string r.sep,.slice np nl.length nc,.slice jp jl.length jc] 99);have hN2:=b9 (w.alloc (.cells #[.int .i64 r.Gi,.int .i64 r.Gh,.int .i64 r.Gc,.int .i64 r.Gg,.string r.tag,.string r.near,.string r.sep,.slice np nl.length nc,.slice jp jl.length jc] 99)) (.cells #[.string d.name,.int .u64 d.id,.int .i64 d.first,.int .i64 d.Gc,.bool d.closed,.bool d.missing,.slice tp d.tags.length tc] 47);rw [cW] at hN2;exact ⟨⟨(hA2.block _ (aq hN1)).trans hN1,hN2⟩,hA1.trans (hA2.mono hA1.size)⟩
theorem AX (r:aY)(np jp:Option Addr)(nc jc:Nat)(nl jl:List ByteArray)(d:az)(tp:Option Addr)(tc:Nat)(w:World) :
  Calls prog 51 #[.agg #[.int .i64 r.Gi,.int .i64 r.Gh,.int .i64 r.Gc,.int .i64 r.Gg,.string r.tag,.string r.near,.string r.sep,.slice np nl.length nc,.slice jp jl.length jc],.agg #[.string d.name,.int .u64 d.id,.int .i64 d.first,.int .i64 d.Gc,.bool d.closed,.bool d.missing,.slice tp d.tags.length tc]] w (iI (jV d) w):=by
 obtain ⟨hat,hb⟩:=nM w r np jp nc jc nl jl d tp tc;have Fm:=aa hat;clear hat;have HB:=aa hb;clear hb;have HR:Hid (jV d=(!d.closed&&!d.missing)):=aa rfl;go_enter func51,ntmps51
 go_upto_region 1 with (fail)
 generalize hW1:World.alloc (World.alloc w _) _=W1 at *;clear hW1;have dL:=Fm.o.dc;obtain ⟨d0,d1,d2,d3,d4,d5,d6⟩:=se dL;clear dL;cases hc:d.closed with
 | true =>
  rw [hc] at d4 HR;go_wp2;go_ret;exact ⟨by rw [HR.o];rfl,HB.o⟩
 | false =>
  rw [hc] at d4 HR;cases hm:d.missing with
  | true =>
   rw [hm] at d5 HR;go_wp2;go_ret;exact ⟨by rw [HR.o];rfl,HB.o⟩
  | false =>
   rw [hm] at d5 HR;go_wp2;go_ret;exact ⟨by rw [HR.o];rfl,HB.o⟩
theorem zl {ok:Nat->Prop}(r:aY)(np jp:Option Addr)(nc jc:Nat)(nl jl:List ByteArray)(d:az)(tp:Option Addr)(tc:Nat)(w:World)(ht:ck aF 1 ok w [.slice tp d.tags.length tc] d.tags)(nt:d.tags.length<=1000000) :
  Calls prog 52 #[.agg #[.int .i64 r.Gi,.int .i64 r.Gh,.int .i64 r.Gc,.int .i64 r.Gg,.string r.tag,.string r.near,.string r.sep,.slice np nl.length nc,.slice jp jl.length jc],.agg #[.string d.name,.int .u64 d.id,.int .i64 d.first,.int .i64 d.Gc,.bool d.closed,.bool d.missing,.slice tp d.tags.length tc]] w (iI (jG r.tag d) w):=by
 obtain ⟨hat,hb⟩:=nM w r np jp nc jc nl jl d tp tc;have Fm:=aa hat;clear hat;have HB:=aa hb;clear hb;have HT:=aa ((ck.moves aF.moves).mv (Mv.of HB.o) ht);clear ht;have HR:Hid (jG r.tag d=(r.tag.toList.isEmpty||bI d.tags r.tag)):=aa rfl;go_enter func52,ntmps52
 go_upto_region 1 with (fail)
 generalize hW1:World.alloc (World.alloc w _) _=W1 at *;clear hW1;have dL:=Fm.o.dc;have d6:=dL 6 _ rfl;clear dL;have jL:=Fm.o.jc;have j4:=jL 4 _ rfl;clear jL;have HC:=aa (eT d.tags r.tag _ W1 HT.o nt);clear HT;cases PE:r.tag.toList.isEmpty with
 | true =>
  rw [PE] at HR;go_wp2;go_ret;exact ⟨by rw [HR.o];rfl,HB.o⟩
 | false =>
  rw [PE] at HR
  go_wp2_with (refine HC.o.mono ?_;rintro e w5 ⟨rfl,rfl⟩)
  go_ret;exact ⟨by rw [HR.o];rfl,HB.o⟩
theorem yM {ok:Nat->Prop}(r:aY)(np jp:Option Addr)(nc jc:Nat)(nl jl:List ByteArray)(d:az)(tp:Option Addr)(tc:Nat)(w:World)(hn:ck aF 1 ok w [.slice np nl.length nc] nl)(zr:nl.length<=1000000) :
  Calls prog 53 #[.agg #[.int .i64 r.Gi,.int .i64 r.Gh,.int .i64 r.Gc,.int .i64 r.Gg,.string r.tag,.string r.near,.string r.sep,.slice np nl.length nc,.slice jp jl.length jc],.agg #[.string d.name,.int .u64 d.id,.int .i64 d.first,.int .i64 d.Gc,.bool d.closed,.bool d.missing,.slice tp d.tags.length tc]] w (iI (nN nl r.Gg d) w):=by
 obtain ⟨hat,hb⟩:=nM w r np jp nc jc nl jl d tp tc;have Fm:=aa hat;clear hat;have HB:=aa hb;clear hb;have HT:=aa ((ck.moves aF.moves).mv (Mv.of HB.o) hn);clear hn;have HR:Hid (nN nl r.Gg d=(!(r.Gg == 2)||bI nl d.name)):=aa rfl;go_enter func53,ntmps53
 go_upto_region 1 with (fail)
 generalize hW1:World.alloc (World.alloc w _) _=W1 at *;clear hW1;have dL:=Fm.o.dc;have d0:=dL 0 _ rfl;clear dL;have jL:=Fm.o.jc;have j3:=jL 3 _ rfl;have j7:=jL 7 _ rfl;clear jL;have HC:=aa (eT nl d.name _ W1 HT.o zr);clear HT;cases hp:(r.Gg == 2) with
 | false =>
  have Ji:(r.Gg != 2)=true:=by simpa [bne] using hp
  rw [hp] at HR;go_wp2;go_ret;exact ⟨by rw [HR.o];rfl,HB.o⟩
 | true =>
  have Ji:(r.Gg != 2)=false:=by simpa [bne] using hp
  rw [hp] at HR
  go_wp2_with (refine HC.o.mono ?_;rintro e w5 ⟨rfl,rfl⟩)
  go_ret;exact ⟨by rw [HR.o];rfl,HB.o⟩
theorem wL {ok:Nat->Prop}(x:ByteArray)(Bj:Nat)(jp:Option Addr)(jc:Nat)(jl:List ByteArray)(w:World)(h8:w.cell? ⟨Bj,8,none⟩=some (.slice jp jl.length jc))(hj:ck aF 1 ok w [.slice jp jl.length jc] jl)(vt:jl.length<=1000000) :
  Calls prog 105 #[.string x,.pointer (some ⟨Bj,0,none⟩)] w fun e w'=>e=.returned (.bool (bI jl x))/\w=w':=by
 have HC:=aa (eT jl x _ w hj vt);clear hj;go_enter func105,ntmps105
 go_wp2_with (refine HC.o.mono ?_;rintro e w5 ⟨rfl,rfl⟩)
 go_ret;exact ⟨rfl,rfl⟩
theorem pG {ok ok':Nat->Prop}(l:List ByteArray)(v:Value)(Bj:Nat)(jp:Option Addr)(jc:Nat)(jl:List ByteArray)(w:World)(h:ck aF 1 ok w [v] l)(hl:l.length<=1000000)(h8:w.cell? ⟨Bj,8,none⟩=some (.slice jp jl.length jc))(hj:ck aF 1 ok' w [.slice jp jl.length jc] jl)(vt:jl.length<=1000000) :
  Calls prog 162 #[v,.func (.func 105) #[] #[.pointer (some ⟨Bj,0,none⟩)]] w fun e w'=>(∃ r:Int,e=.returned (.int .i64 r)/\decide (0<=r)=l.any (bI jl))/\w=w':=by
 obtain ⟨p,cap,rfl,hc1,hc2⟩:=h.cap;have HH:=aa h;clear h;have HC:=aa (fun x=>wL (ok:=ok') x Bj jp jc jl w h8 hj vt);clear h8 hj vt;go_enter func162,ntmps162;go_wp2
 go_loop [8,5] (fun i _=>∃ k:Nat,k<=l.length/\i=.int .i64 k/\(l.take k).any (bI jl)=false) (fun i _=>l.length - (intOf i).toNat)
 case atStart=>exact ⟨0,cg _,rfl,rfl⟩
 case round =>
  obtain ⟨k,hk,rfl,hall⟩:=hrel;have cE:=aa hall;clear hall
  by_cases hlt:k<l.length
  ·obtain ⟨y,hy⟩:=aj l k hlt
   obtain ⟨b,off,us,rfl,gR,cX,ez,eE,hcv⟩:=HH.o.elem hy;obtain rfl:us=_:=eE;have q0:=hcv 0 _ rfl;rw [fp,fg] at q0;have I6:Hid ((l.take (k+1)).any (bI jl)=bI jl y):=aa (by rw [take_snoc' l k y hy,rj,cE.o];simp);have AE:Hid (bI jl y=true->l.any (bI jl)=true):=aa fun h=>List.any_eq_true.2 ⟨y,ct hy,h⟩;clear hy cE hcv ez;have Us:=aa (HC.o y);cases hs:bI jl y with
   | true =>
    rw [hs] at Us;have HR:=aa (AE.o hs);clear hs
    go_wp2_with (refine Us.o.mono ?_;rintro e w5 ⟨rfl,rfl⟩)
    go_ret;exact ⟨⟨k,rfl,by rw [HR.o];simp⟩,rfl⟩
   | false =>
    rw [hs] at Us;have HR:=aa (I6.o.trans hs);clear hs
    go_wp2_with (refine Us.o.mono ?_;rintro e w5 ⟨rfl,rfl⟩)
    go_round
    case rel=>exact ⟨k+1,by omega,by go_num,HR.o⟩
    case measure=>simp [intOf];omega
  ·obtain rfl:k=l.length:=by omega
   rw [cI] at cE;go_wp2;go_ret;exact ⟨⟨-1,rfl,by rw [cE.o];rfl⟩,rfl⟩
theorem mg {ok ok':Nat->Prop}(l:List ByteArray)(v:Value)(Bj:Nat)(jp:Option Addr)(jc:Nat)(jl:List ByteArray)(w:World)(h:ck aF 1 ok w [v] l)(hl:l.length<=1000000)(h8:w.cell? ⟨Bj,8,none⟩=some (.slice jp jl.length jc))(hj:ck aF 1 ok' w [.slice jp jl.length jc] jl)(vt:jl.length<=1000000) :
  Calls prog 104 #[v,.func (.func 105) #[] #[.pointer (some ⟨Bj,0,none⟩)]] w fun e w'=>e=.returned (.bool (l.any (bI jl)))/\w=w':=by
 go_enter func104,ntmps104
 go_wp2_with fail
 refine (pG (ok:=ok) (ok':=ok') l v Bj jp jc jl w h hl h8 hj vt).mono ?_;rintro e w2 ⟨⟨r,rfl,hr2⟩,rfl⟩;have HR:=aa hr2;clear hr2;go_wp2;go_ret;exact ⟨ah HR.o,rfl⟩
theorem ym {ok ok' ok2:Nat->Prop}(r:aY)(np jp:Option Addr)(nc jc:Nat)(nl jl:List ByteArray)(d:az)(tp:Option Addr)(tc:Nat)(w:World)(hn:ck aF 1 ok w [.slice np nl.length nc] nl)(zr:nl.length<=1000000)(ht:ck aF 1 ok' w [.slice tp d.tags.length tc] d.tags)(nt:d.tags.length<=1000000)(hj:ck aF 1 ok2 w [.slice jp jl.length jc] jl)(vt:jl.length<=1000000) :
  Calls prog 54 #[.agg #[.int .i64 r.Gi,.int .i64 r.Gh,.int .i64 r.Gc,.int .i64 r.Gg,.string r.tag,.string r.near,.string r.sep,.slice np nl.length nc,.slice jp jl.length jc],.agg #[.string d.name,.int .u64 d.id,.int .i64 d.first,.int .i64 d.Gc,.bool d.closed,.bool d.missing,.slice tp d.tags.length tc]] w (iI (vE nl jl r.Gg d) w):=by
 obtain ⟨hat,hb⟩:=nM w r np jp nc jc nl jl d tp tc;have Fm:=aa hat;clear hat;have HB:=aa hb;clear hb;have HN:=aa ((ck.moves aF.moves).mv (Mv.of HB.o) hn);clear hn;have HT:=aa ((ck.moves aF.moves).mv (Mv.of HB.o) ht);clear ht;have HJ:=aa ((ck.moves aF.moves).mv (Mv.of HB.o) hj);clear hj;have HR:Hid (vE nl jl r.Gg d=(!(r.Gg == 3)||(bI nl d.name||d.tags.any (bI jl)))):=aa rfl;go_enter func54,ntmps54
 go_upto_region 1 with (fail)
 generalize hW1:World.alloc (World.alloc w _) _=W1 at *;clear hW1;have dL:=Fm.o.dc;have d0:=dL 0 _ rfl;have d6:=dL 6 _ rfl;clear dL;have jL:=Fm.o.jc;have j3:=jL 3 _ rfl;have j7:=jL 7 _ rfl;have j8:=jL 8 _ rfl;clear jL;have HC:=aa (eT nl d.name _ W1 HN.o zr);have HD:=aa (mg d.tags _ w.heap.size jp jc jl W1 HT.o nt j8 HJ.o vt);clear HN HT HJ j8;cases hp:(r.Gg == 3) with
 | false =>
  have Ji:(r.Gg != 3)=true:=by simpa [bne] using hp
  rw [hp] at HR;go_wp2;go_ret;exact ⟨by rw [HR.o];rfl,HB.o⟩
 | true =>
  have Ji:(r.Gg != 3)=false:=by simpa [bne] using hp
  rw [hp] at HR;cases hh:bI nl d.name with
  | true =>
   rw [hh] at HC HR
   go_wp2_with (refine HC.o.mono ?_;rintro e w5 ⟨rfl,rfl⟩)
   go_ret;exact ⟨by rw [HR.o];rfl,HB.o⟩
  | false =>
   rw [hh] at HC HR
   go_wp2_with (first | (refine HC.o.mono ?_;rintro e w5 ⟨rfl,rfl⟩) | (refine HD.o.mono ?_;rintro e w5 ⟨rfl,rfl⟩))
   go_ret;exact ⟨by rw [HR.o];rfl,HB.o⟩
end Go.Proofs.YtjdfihglehfelaaGreatDoor
