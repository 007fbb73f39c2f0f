/- Lemmas: MkU, PolH. -/
import Derived.Test.YtjdfihglehfelaaGreatDoorPk36
import Derived.Test.YtjdfihglehfelaaGreatDoorPk45
set_option maxRecDepth 100000
set_option maxHeartbeats 32000000
set_option linter.all false
namespace Go.Proofs.YtjdfihglehfelaaGreatDoor
open Go.RowKit
def mO (r:aY):Value:=.agg #[.int .i64 r.Gi,.int .i64 r.Gh,.int .i64 r.Gc,.int .i64 r.Gg,.string r.tag,.string r.near,.string r.sep]
def F7 (bs:Nat)(w:World)(e:Ending)(w':World):Prop:=∃ r:aY,e=.returned (mO r)∧dK r∧Src w' bs∧Mod (fun b=>b=bs) w w'
structure kD (w0:World)(bs Bg Bq:Nat)(g:af)(a:bN)(r:aY)(w:World):Prop where
 src:Src w bs
 md:Mod (fun b=>b=bs) w0 w
 gb:w.heap[Bg]?=some (.cells #[.string g.name,.int .u64 g.id,.int .i64 g.seq,.int .i64 g.Gd,.int .i64 g.next,.slice a.tp g.tags.length a.tc,.slice a.dp g.Gb.length a.dc,.slice a.vp g.F9.length a.vc,.slice a.hp g.history.length a.hc] 31 (0,0))
 rb:w.heap[Bg+1]?=some (.cells #[.int .i64 0,.int .i64 0,.int .i64 0,.int .i64 0,.string ⟨#[]⟩,.string ⟨#[]⟩,.string ⟨#[]⟩] 35 (0,0))
 qb:w.heap[Bq]?=some (.cells #[.int .i64 r.Gi,.int .i64 r.Gh,.int .i64 r.Gc,.int .i64 r.Gg,.string r.tag,.string r.near,.string r.sep] 35 (0,0))
 rq:dK r
theorem kD.call {w0 w w':World}{bs Bg Bq:Nat}{g:af}{a:bN}{r:aY}(h:kD w0 bs Bg Bq g a r w)(hs:Src w' bs)(hm:Mod (fun i=>i=bs) w w')(hg:Bg≠bs)(hr:Bg+1≠bs)(hq:Bq≠bs):kD w0 bs Bg Bq g a r w' :=
 ⟨hs,h.md.trans hm (fun _ e=>.inl e),(hm.block _ (lt_of_block h.gb) hg).trans h.gb,(hm.block _ (lt_of_block h.rb) hr).trans h.rb,(hm.block _ (lt_of_block h.qb) hq).trans h.qb,h.rq⟩
theorem kD.below {w0 w w':World}{bs Bg Bq:Nat}{g:af}{a:bN}{r:aY}(h:kD w0 bs Bg Bq g a r w)(hb:Below w.heap.size w w'):kD w0 bs Bg Bq g a r w' :=
 ⟨h.src.keep fun i hi=>hb.block i (Nat.lt_of_le_of_lt hi h.src.lt),h.md.trans (Mod.of_below (F:=fun _=>False) hb) (fun _ f=>f.elim),(hb.block _ (lt_of_block h.gb)).trans h.gb,(hb.block _ (lt_of_block h.rb)).trans h.rb,(hb.block _ (lt_of_block h.qb)).trans h.qb,h.rq⟩
theorem kD.set {w0 w:World}{bs Bg Bq:Nat}{g:af}{a:bN}{r:aY}(h:kD w0 bs Bg Bq g a r w)(r':aY)(j:Nat)(v:Value)(hv:(#[.int .i64 r.Gi,.int .i64 r.Gh,.int .i64 r.Gc,.int .i64 r.Gg,.string r.tag,.string r.near,.string r.sep]:Array Value).setIfInBounds j v=#[.int .i64 r'.Gi,.int .i64 r'.Gh,.int .i64 r'.Gc,.int .i64 r'.Gg,.string r'.tag,.string r'.near,.string r'.sep])(hr:dK r')(hg:Bg≠Bq)(hrq:Bg+1≠Bq)(hq:bs<Bq)(h0:w0.heap.size≤Bq) :
  kD w0 bs Bg Bq g a r' (w.setCell ⟨Bq,j,none⟩ v) :=
 ⟨h.src.keep fun i hi=>Below.heap_setCell _ _ _ _ (by show i≠Bq;omega),h.md.setCell (.inr h0) _,(Below.heap_setCell _ _ _ _ hg).trans h.gb,(Below.heap_setCell _ _ _ _ hrq).trans h.rb,(block_setCell v h.qb).trans (by rw [hv]),hr⟩
theorem kD.qc {w0 w:World}{bs Bg Bq:Nat}{g:af}{a:bN}{r:aY}(h:kD w0 bs Bg Bq g a r w)(i:Nat)(z:Value)(hz:[.int .i64 r.Gi,.int .i64 r.Gh,.int .i64 r.Gc,.int .i64 r.Gg,.string r.tag,.string r.near,.string r.sep][i]?=some z):w.cell? ⟨Bq,i,none⟩=some z:=by
 simp only [World.cell?,h.qb];simpa using hz
theorem kD.qf {w0 w:World}{bs Bg Bq:Nat}{g:af}{a:bN}{r:aY}(h:kD w0 bs Bg Bq g a r w)(i:Nat):w.frozen? ⟨Bq,i,none⟩=false:=by simp [World.frozen?,h.qb]
theorem dK.setL {r:aY}(h:dK r){n:Int}(hn:-9223372036854775808≤n∧n≤9223372036854775807):dK { r with Gi:=n }:=⟨hn,h.s,h.e,h.p,h.t,h.n,h.q⟩
theorem dK.setS {r:aY}(h:dK r){n:Int}(hn:-9223372036854775808≤n∧n≤9223372036854775807):dK { r with Gh:=n }:=⟨h.l,hn,h.e,h.p,h.t,h.n,h.q⟩
theorem dK.setE {r:aY}(h:dK r){n:Int}(hn:-9223372036854775808≤n∧n≤9223372036854775807):dK { r with Gc:=n }:=⟨h.l,h.s,hn,h.p,h.t,h.n,h.q⟩
theorem dK.setP {r:aY}(h:dK r){n:Int}(hn:-9223372036854775808≤n∧n≤9223372036854775807):dK { r with Gg:=n }:=⟨h.l,h.s,h.e,hn,h.t,h.n,h.q⟩
theorem dK.setT {r:aY}(h:dK r){s:ByteArray}(hn:s.size≤9223372036854775807):dK { r with tag:=s }:=⟨h.l,h.s,h.e,h.p,hn,h.n,h.q⟩
theorem dK.setN {r:aY}(h:dK r){s:ByteArray}(hn:s.size≤9223372036854775807):dK { r with near:=s }:=⟨h.l,h.s,h.e,h.p,h.t,hn,h.q⟩
theorem dK.setQ {r:aY}(h:dK r){s:ByteArray}(hn:s.size≤9223372036854775807):dK { r with sep:=s }:=⟨h.l,h.s,h.e,h.p,h.t,h.n,hn⟩
theorem lV (w:World)(l:List Int)(t:TypeId):ig (w.alloc (.cells (l.map (Value.int .i64)).toArray t)) w.heap.size 0 l:=fun i n hn=>by
 rw [Nat.zero_add];exact aD rfl (by simp [hn])
theorem uW (w:World)(l:List ByteArray)(t:TypeId)(ok:Nat→Prop)(hok:ok w.heap.size)(hl:l.length≤1000):RdS aF 1 ok (w.alloc (.cells (l.map Value.string).toArray t)) [.slice (some ⟨w.heap.size,0,none⟩) l.length l.length] l :=
 ⟨_,l.length,rfl,Nat.le_refl _,by omega,fun _=>⟨w.heap.size,0,rfl,by simp,hok,fun i x hx=>⟨[.string x],rfl,rfl,fun j z hz=>by
  match j,hz with
  | 0,hz =>
   obtain rfl:Value.string x=z:=by simpa using hz
   exact aD rfl (by simp [hx])⟩⟩⟩
def qj:List ByteArray:=[⟨#[102,97,115,116]⟩,⟨#[115,105,116,101,61,49]⟩,⟨#[99,111,108,100]⟩,⟨#[122,122]⟩]
def qF:List ByteArray:=[⟨#[115,105,116,101,61]⟩,⟨#[102]⟩,⟨#[115]⟩]
theorem A9:∀ s∈qj,s.size≤9223372036854775807:=fun s hs=>by
 simp only [qj,List.mem_cons,List.not_mem_nil,or_false] at hs;rcases hs with rfl | rfl | rfl | rfl <;> decide
theorem AO:∀ s∈qF,s.size≤9223372036854775807:=fun s hs=>by
 simp only [qF,List.mem_cons,List.not_mem_nil,or_false] at hs;rcases hs with rfl | rfl | rfl <;> decide
theorem wX (g:af)(a:bN)(bs:Nat)(w:World)(hr:RdS aN 6 (fun b=>b≠bs) w [.slice a.vp g.F9.length a.vc] g.F9)(hvl:g.F9.length≤1000)(hvn:∀ v∈g.F9,v.name.size≤9223372036854775807)(h:Src w bs) :
  Calls Tryz.prog 18 #[.pointer (some ⟨bs,0,none⟩),.agg #[.string g.name,.int .u64 g.id,.int .i64 g.seq,.int .i64 g.Gd,.int .i64 g.next,.slice a.tp g.tags.length a.tc,.slice a.dp g.Gb.length a.dc,.slice a.vp g.F9.length a.vc,.slice a.hp g.history.length a.hc]] w (F7 bs w):=by
 have HG:=aa hr;clear hr;have HVN:=aa hvn;clear hvn;have hbs:=h.lt;have hA1:=ae w (.cells #[.string g.name,.int .u64 g.id,.int .i64 g.seq,.int .i64 g.Gd,.int .i64 g.next,.slice a.tp g.tags.length a.tc,.slice a.dp g.Gb.length a.dc,.slice a.vp g.F9.length a.vc,.slice a.hp g.history.length a.hc] 31);have hA2:=ae (w.alloc (.cells #[.string g.name,.int .u64 g.id,.int .i64 g.seq,.int .i64 g.Gd,.int .i64 g.next,.slice a.tp g.tags.length a.tc,.slice a.dp g.Gb.length a.dc,.slice a.vp g.F9.length a.vc,.slice a.hp g.history.length a.hc] 31)) (.cells #[.int .i64 0,.int .i64 0,.int .i64 0,.int .i64 0,.string ⟨#[]⟩,.string ⟨#[]⟩,.string ⟨#[]⟩] 35);have hN1:=heap_alloc_new w (.cells #[.string g.name,.int .u64 g.id,.int .i64 g.seq,.int .i64 g.Gd,.int .i64 g.next,.slice a.tp g.tags.length a.tc,.slice a.dp g.Gb.length a.dc,.slice a.vp g.F9.length a.vc,.slice a.hp g.history.length a.hc] 31);have hN2:=heap_alloc_new (w.alloc (.cells #[.string g.name,.int .u64 g.id,.int .i64 g.seq,.int .i64 g.Gd,.int .i64 g.next,.slice a.tp g.tags.length a.tc,.slice a.dp g.Gb.length a.dc,.slice a.vp g.F9.length a.vc,.slice a.hp g.history.length a.hc] 31)) (.cells #[.int .i64 0,.int .i64 0,.int .i64 0,.int .i64 0,.string ⟨#[]⟩,.string ⟨#[]⟩,.string ⟨#[]⟩] 35);rw [World.size_alloc] at hN2;have HGB:=aa ((hA2.block _ (lt_of_block hN1)).trans hN1);have HRB:=aa hN2;have hb12:=hA1.trans (hA2.mono hA1.size);have HM12:Hid (Mod (fun b=>b=bs) w _):=aa (Mod.of_below hb12);have HS2:=aa (h.keep fun i hi=>hb12.block i (by omega));clear hA1 hA2 hN1 hN2 hb12;go_enter Tryz.func18,Tryz.ntmps18
 go_upto_region 1 with (fail)
 generalize hW2:World.alloc (World.alloc w _) _=W2 at *;generalize hBg:w.heap.size=Bg at *;clear hW2
 go_wp2_with fail
 refine (bO bs 1 3 W2 (by omega) (by omega) (by omega) HS2.out).mono ?_;rintro e w3 ⟨n1,rfl,hn1a,hn1b,hs3,hm3⟩
 go_wp2_with fail
 have HC3:=aa (lV w3 [1,1,2] 3);have hA3:=ae w3 (.cells ([1,1,2].map (Value.int .i64)).toArray 3);have hs3':Src w3 bs:=hs3;refine (jD bs w3.heap.size 3 [1,1,2] _ (by decide) (by decide) (by decide) (by decide) (by simp) (by have:=hs3'.lt;omega) HC3.out (hs3'.keep fun i hi=>hA3.block i (Nat.lt_of_le_of_lt hi hs3'.lt))).mono ?_;rintro e w4 ⟨n2,rfl,hn2,hs4,hm4⟩;have hm4':=(hm3.trans (Mod.of_below (F:=fun _=>False) hA3) (fun _ f=>f.elim)).trans hm4 (fun _ e=>.inl e);clear HC3 hA3 hm3 hm4 hs3 hs3'
 go_wp2_with fail
 refine (bO bs 1 12 w4 (by omega) (by omega) (by omega) hs4).mono ?_;rintro e w5 ⟨n3,rfl,hn3a,hn3b,hs5,hm5⟩
 go_wp2_with fail
 refine (bO bs 1 5 w5 (by omega) (by omega) (by omega) hs5).mono ?_;rintro e w6 ⟨n4,rfl,hn4a,hn4b,hs6,hm6⟩;have hm6':=(hm4'.trans hm5 (fun _ e=>.inl e)).trans hm6 (fun _ e=>.inl e)
 have hn2':1≤n2∧n2≤2:=by
  simp only [List.mem_cons,List.not_mem_nil,or_false] at hn2;omega
 clear hm4' hm5 hm6 hs4 hs5 hn2;have hA6:=ae w6 (.cells #[.int .i64 n1,.int .i64 n2,.int .i64 n3,.int .i64 n4,.string ⟨#[]⟩,.string ⟨#[]⟩,.string ⟨#[]⟩] 35);have hN6:=heap_alloc_new w6 (.cells #[.int .i64 n1,.int .i64 n2,.int .i64 n3,.int .i64 n4,.string ⟨#[]⟩,.string ⟨#[]⟩,.string ⟨#[]⟩] 35);have hgs:Bg<W2.heap.size:=lt_of_block HGB.out;have hrs:Bg+1<W2.heap.size:=lt_of_block HRB.out
 have HST:Hid (kD w bs Bg w6.heap.size g a ⟨n1,n2,n3,n4,⟨#[]⟩,⟨#[]⟩,⟨#[]⟩⟩ (w6.alloc (.cells #[.int .i64 n1,.int .i64 n2,.int .i64 n3,.int .i64 n4,.string ⟨#[]⟩,.string ⟨#[]⟩,.string ⟨#[]⟩] 35))):=aa
  ⟨(show Src w6 bs from hs6).keep fun i hi=>hA6.block i (Nat.lt_of_le_of_lt hi (show Src w6 bs from hs6).lt),(HM12.out.trans hm6' (fun _ e=>.inl e)).trans (Mod.of_below (F:=fun _=>False) hA6) (fun _ f=>f.elim),
   (hA6.block _ (Nat.lt_of_lt_of_le hgs hm6'.size)).trans ((hm6'.block _ hgs (by omega)).trans HGB.out),(hA6.block _ (Nat.lt_of_lt_of_le hrs hm6'.size)).trans ((hm6'.block _ hrs (by omega)).trans HRB.out),hN6,
   ⟨by dsimp only;omega,by dsimp only;omega,by dsimp only;omega,by dsimp only;omega,by show ByteArray.size ⟨#[]⟩≤_;decide,by show ByteArray.size ⟨#[]⟩≤_;decide,by show ByteArray.size ⟨#[]⟩≤_;decide⟩⟩
 have hq6:Bg+1<w6.heap.size:=Nat.lt_of_lt_of_le hrs hm6'.size;clear hA6 hN6 hs6 hm6' HGB HRB HM12 HS2
 go_upto_region 2 with (fail)
 generalize hW7:World.alloc w6 _=W7 at *;generalize hBq:w6.heap.size=Bq at *;clear hW7 hBq hn1a hn1b hn2' hn3a hn3b hn4a hn4b hgs hrs;have hgq:Bg≠Bq:=by omega
 have hrq:Bg+1≠Bq:=by omega
 have hqs:bs<Bq:=by omega
 have hqz:w.heap.size≤Bq:=by omega
 have hgs:Bg≠bs:=by omega
 have hrs:Bg+1≠bs:=by omega
 have hqn:Bq≠bs:=by omega
 go_wp2_with fail
 refine (bY bs 2 W7 (by omega) (by omega) HST.out.src).mono ?_;rintro e w8 ⟨n,rfl,_,_,hs8,hm8⟩;have HS8:=aa (HST.out.call hs8 hm8 hgs hrs hqn);clear hs8 hm8 HST
 go_upto_if 18 with (fail)
 go_cut [5] (fun v wc=>v=.pointer (some ⟨Bq,0,none⟩)∧∃ r,kD w bs Bg Bq g a r wc)
 case first =>
  have qL:=HS8.out.qc;have q0:=qL 0 _ rfl;have q1:=qL 1 _ rfl;have q2:=qL 2 _ rfl;have q3:=qL 3 _ rfl;have q4:=qL 4 _ rfl;have q5:=qL 5 _ rfl;have q6:=qL 6 _ rfl;have qf:=HS8.out.qf;clear qL
  by_cases hn:n=0
  ·subst hn
   go_wp2;go_meet;exact ⟨rfl,_,((HS8.out.set ⟨1,n2,n3,n4,⟨#[]⟩,⟨#[]⟩,⟨#[]⟩⟩ 0 (.int .i64 1) rfl (HS8.out.rq.setL (by omega)) hgq hrq hqs hqz).set ⟨1,1,n3,n4,⟨#[]⟩,⟨#[]⟩,⟨#[]⟩⟩ 1 (.int .i64 1) rfl ((HS8.out.rq.setL (by omega)).setS (by omega)) hgq hrq hqs hqz)⟩
  ·go_wp2
   go_meet;exact ⟨rfl,_,HS8.out⟩
 case rest =>
  obtain ⟨rfl,r1,hst⟩:=hcut;have HS:=aa hst;clear hst HS8
  go_upto_region 4 with (fail)
  go_cut [39] (fun v wx=>∃ c:Bool,v=.bool c∧(c=true→0<g.F9.length)∧kD w bs Bg Bq g a r1 wx)
  case first =>
   have g7:wc.cell? ⟨Bg,7,none⟩=some (.slice a.vp g.F9.length a.vc):=by simp [World.cell?,HS.out.gb]
   by_cases h0:0<g.F9.length
   ·go_wp2_with fail
    refine (bY bs 2 wc (by omega) (by omega) HS.out.src).mono ?_;rintro e w8 ⟨n,rfl,_,_,hs8,hm8⟩;have HS8:=aa (HS.out.call hs8 hm8 hgs hrs hqn);clear hs8 hm8 g7;have q3:=HS8.out.qc 3 _ rfl
    by_cases hn:n=0
    ·subst hn
     go_wp2;go_meet;exact ⟨_,rfl,fun _=>h0,HS8.out⟩
    ·have hnb:(n == 0)=false:=by simpa using hn
     cases h2:(r1.Gg == 2) with
     | true =>
      go_wp2;go_meet;exact ⟨_,rfl,fun _=>h0,HS8.out⟩
     | false =>
      go_wp2;go_meet;exact ⟨_,rfl,fun _=>h0,HS8.out⟩
   ·go_wp2
    go_meet;exact ⟨false,rfl,fun h=>(by cases h),HS.out⟩
  case rest =>
   obtain ⟨c,rfl,hc0,hst⟩:=hcut;have HS2:=aa hst;clear hst HS
   go_upto_if 39 with (fail)
   go_cut [5] (fun v wx=>v=.pointer (some ⟨Bq,0,none⟩)∧∃ r,kD w bs Bg Bq g a r wx)
   case first =>
    cases c with
    | false =>
     go_wp2;go_meet;exact ⟨rfl,_,HS2.out⟩
    | true =>
     have hv0:=hc0 rfl
     go_upto_region 5 with (fail)
     have HGC:Hid (∀ w':World,w'.heap[Bg]?=wc.heap[Bg]?→w'.cell? ⟨Bg,7,none⟩=some (.slice a.vp g.F9.length a.vc)):=aa fun w' e=>by
      have:=e.trans HS2.out.gb;simp [World.cell?,this]
     refine aL (fun w'=>w'.cell? ⟨Bg,7,none⟩=some (.slice a.vp g.F9.length a.vc)) 7 [] (by kernel_rfl) (HGC.out _ rfl) (fun hHeld=>?_);refine tkF 0 hHeld ?_;try simp only [ak];refine tkF 1 hHeld ?_;try simp only [ak];refine tkF 2 hHeld ?_;try simp only [ak];refine tkF 3 hHeld ?_;try simp only [ak];refine tkF 4 hHeld ?_;try simp only [ak];refine tkF 5 hHeld ?_;try simp only [ak];refine au (i:=6) rfl rfl (by kernel_rfl) (fun K hK=>?_);go_simp;refine (bY bs (g.F9.length:Int) wc.drew (by omega) (by omega) (HS2.out.src.keep fun _ _=>rfl)).mono ?_;rintro e w8 ⟨n,rfl,hn1,hn2,hs8,hm8⟩;have hm8':Mod (fun i=>i=bs) wc w8:=⟨hm8.os,hm8.tape,hm8.output,hm8.size,hm8.block⟩;have HS8:=aa (HS2.out.call hs8 hm8' hgs hrs hqn);have HM8:=aa hm8';refine hK.out _ _ (HGC.out _ ((HS8.out.gb).trans HS2.out.gb.symm)) ?_;clear hK K hHeld hs8 hm8 hm8';obtain ⟨k,rfl⟩:=Int.eq_ofNat_of_zero_le hn1;obtain ⟨v,hv⟩:=aj g.F9 k (by omega);have hgm:RdS aN 6 (fun b=>b≠bs) w8 [.slice a.vp g.F9.length a.vc] g.F9:=(RdS.moves aN.moves).mv ⟨(HS2.out.md.trans HM8.out (fun _ e=>.inl e)).size,fun b hb ho=>⟨ho,(HS2.out.md.trans HM8.out (fun _ e=>.inl e)).block b hb ho⟩⟩ HG.out;obtain ⟨b,off,us,hsp,hob,hbw,hul,hvs,hcv⟩:=hgm.elem hv;obtain ⟨tv,sv,rfl,_,_⟩:=hvs;have v0:=hcv 0 _ rfl;rw [Nat.add_zero] at v0;have hvz:=HVN.out v (List.mem_of_getElem? hv);have hkl:k<g.F9.length:=by omega
     rw [hsp];have qL:=HS8.out.qc;have q5:=qL 5 _ rfl;have qf:=HS8.out.qf;clear qL hv hcv hul hgm;have HSN:=aa (HS8.out.set { r1 with near:=v.name } 5 (.string v.name) rfl (HS8.out.rq.setN hvz) hgq hrq hqs hqz)
     have g7:=HGC.out w8 ((HS8.out.gb).trans HS2.out.gb.symm);have g7':=HGC.out (w8.setCell ⟨Bq,5,none⟩ (.string v.name)) ((HSN.out.gb).trans HS2.out.gb.symm);rw [hsp] at g7 g7';refine au (i:=7) rfl rfl (by kernel_rfl) (fun K hK=>?_);go_simp;refine hK.out _ _ g7 ?_;clear hK K;refine au (i:=8) rfl rfl (by kernel_rfl) (fun K hK=>?_);go_simp;refine hK.out _ _ g7 ?_;clear hK K;refine au (i:=9) rfl rfl (by kernel_rfl) (fun K hK=>?_);go_simp;refine hK.out _ _ g7 ?_;clear hK K;refine au (i:=10) rfl rfl (by kernel_rfl) (fun K hK=>?_);go_simp;refine hK.out _ _ g7 ?_;clear hK K;refine au (i:=11) rfl rfl (by kernel_rfl) (fun K hK=>?_);go_simp;refine hK.out _ _ g7' ?_;clear hK K;refine ⟨by kernel_rfl,?_⟩;rw [← hsp];clear hsp;go_wp2;go_meet;exact ⟨rfl,_,HSN.out⟩
   case rest =>
    obtain ⟨rfl,r2,hst⟩:=hcut;have HS3:=aa hst;clear hst HS2 hc0
    go_wp2_with fail
    refine (bY bs 4 _ (by omega) (by omega) HS3.out.src).mono ?_;rintro e w8 ⟨n,rfl,_,_,hs8,hm8⟩;have HS8:=aa (HS3.out.call hs8 hm8 hgs hrs hqn);clear hs8 hm8
    go_upto_if 53 with (fail)
    go_cut [5] (fun v wx=>v=.pointer (some ⟨Bq,0,none⟩)∧∃ r,kD w bs Bg Bq g a r wx)
    case first =>
     by_cases hn:n=0
     ·subst hn
      have hA:=ae w8 (.cells (qj.map Value.string).toArray 9);have HSA:=aa (HS8.out.below hA);have hne:w8.heap.size≠bs:=by have:=HS8.out.src.lt;omega
      have HW:=aa (qH bs 4 (some ⟨w8.heap.size,0,none⟩) qj _ (by decide) (by decide) (uW w8 qj 9 (fun k=>k≠bs) hne (by decide)) HSA.out.src);clear hA
      go_wp2_with fail
      refine HW.out.mono ?_;rintro e w9 ⟨s,rfl,hsw,hs9,hm9⟩;have HS9:=aa (HSA.out.call hs9 hm9 hgs hrs hqn);clear hs9 hm9;have q4:=HS9.out.qc 4 _ rfl;have qf:=HS9.out.qf;have hsz:=A9 s hsw;go_wp2;go_meet;exact ⟨rfl,_,HS9.out.set { r2 with tag:=s } 4 (.string s) rfl (HS9.out.rq.setT hsz) hgq hrq hqs hqz⟩
     ·go_wp2
      go_meet;exact ⟨rfl,_,HS8.out⟩
    case rest =>
     obtain ⟨rfl,r3,hst⟩:=hcut;have HS4:=aa hst;clear hst HS3 HS8
     go_wp2_with fail
     refine (bY bs 3 _ (by omega) (by omega) HS4.out.src).mono ?_;rintro e w8 ⟨n,rfl,_,_,hs8,hm8⟩;have HS8:=aa (HS4.out.call hs8 hm8 hgs hrs hqn);clear hs8 hm8
     go_upto_if 60 with (fail)
     go_cut [5] (fun v wx=>v=.pointer (some ⟨Bq,0,none⟩)∧∃ r,kD w bs Bg Bq g a r wx)
     case first =>
      by_cases hn:n=0
      ·subst hn
       have hA:=ae w8 (.cells (qF.map Value.string).toArray 9);have HSA:=aa (HS8.out.below hA);have hne:w8.heap.size≠bs:=by have:=HS8.out.src.lt;omega
       have HW:=aa (qH bs 3 (some ⟨w8.heap.size,0,none⟩) qF _ (by decide) (by decide) (uW w8 qF 9 (fun k=>k≠bs) hne (by decide)) HSA.out.src);clear hA
       go_wp2_with fail
       refine HW.out.mono ?_;rintro e w9 ⟨s,rfl,hsw,hs9,hm9⟩;have HS9:=aa (HSA.out.call hs9 hm9 hgs hrs hqn);clear hs9 hm9;have q6:=HS9.out.qc 6 _ rfl;have qf:=HS9.out.qf;have hsz:=AO s hsw;go_wp2;go_meet;exact ⟨rfl,_,HS9.out.set { r3 with sep:=s } 6 (.string s) rfl (HS9.out.rq.setQ hsz) hgq hrq hqs hqz⟩
      ·go_wp2
       go_meet;exact ⟨rfl,_,HS8.out⟩
     case rest =>
      obtain ⟨rfl,r4,hst⟩:=hcut;have HS5:=aa hst;clear hst HS4 HS8
      go_wp2_with fail
      refine (bY bs 20 _ (by omega) (by omega) HS5.out.src).mono ?_;rintro e w8 ⟨n,rfl,_,_,hs8,hm8⟩;have HS8:=aa (HS5.out.call hs8 hm8 hgs hrs hqn);clear hs8 hm8;have qf:=HS8.out.qf;have qL:=HS8.out.qc;have q0:=qL 0 _ rfl;have q1:=qL 1 _ rfl;have q2:=qL 2 _ rfl;have q3:=qL 3 _ rfl;have q4:=qL 4 _ rfl;have q5:=qL 5 _ rfl;have q6:=qL 6 _ rfl;clear qL
      by_cases h0:n=0
      ·subst h0
       have HC:=aa (lV w8 [0,-1,6,7,1099511627776] 3);have hA:=ae w8 (.cells ([0,-1,6,7,1099511627776].map (Value.int .i64)).toArray 3);have HSA:=aa (HS8.out.below hA);have hne:w8.heap.size≠bs:=by have:=HS8.out.src.lt;omega
       have HPK:=aa (jD bs w8.heap.size 5 [0,-1,6,7,1099511627776] _ (by decide) (by decide) (by decide) (by decide) (by simp) hne HC.out HSA.out.src);clear hA HC qf q0 q1 q2 q3 q4 q5 q6
       go_wp2_with fail
       refine HPK.out.mono ?_;rintro e w9 ⟨n,rfl,hnm,hs9,hm9⟩;have HS9:=aa (HSA.out.call hs9 hm9 hgs hrs hqn);clear hs9 hm9;have q0:=HS9.out.qc 0 _ rfl;have qf:=HS9.out.qf
       have hnb:-9223372036854775808≤n∧n≤9223372036854775807:=by
        simp only [List.mem_cons,List.not_mem_nil,or_false] at hnm;omega
       go_upto_region 21 with (fail)
       have HS6:=aa (HS9.out.set { r4 with Gi:=n } 0 (.int .i64 n) rfl (HS9.out.rq.setL hnb) hgq hrq hqs hqz)
       generalize World.setCell _ _ _=wc at *;have qL:=HS6.out.qc;have q0:=qL 0 _ rfl;have q1:=qL 1 _ rfl;have q2:=qL 2 _ rfl;have q3:=qL 3 _ rfl;have q4:=qL 4 _ rfl;have q5:=qL 5 _ rfl;have q6:=qL 6 _ rfl;clear qL;have hrb:=HS6.out.rb
       have bL:∀ (j:Nat) (z:Value),[.int .i64 0,.int .i64 0,.int .i64 0,.int .i64 0,.string ⟨#[]⟩,.string ⟨#[]⟩,.string ⟨#[]⟩][j]?=some z→wc.cell? ⟨Bg+1,j,none⟩=some z:=fun j z hz=>by
        simp only [World.cell?,hrb];simpa using hz
       have b0:=bL 0 _ rfl;have b1:=bL 1 _ rfl;have b2:=bL 2 _ rfl;have b3:=bL 3 _ rfl;have b4:=bL 4 _ rfl;have b5:=bL 5 _ rfl;have b6:=bL 6 _ rfl;have bf:∀ i,wc.frozen? ⟨Bg+1,i,none⟩=false:=fun i=>by simp [World.frozen?,hrb]
       clear bL hrb;go_wp2;refine bodyPost_ret (v:=mO ({ r4 with Gi:=n })) (by simp [mO,results,Tryz.results18,go_sem,b0,b1,b2,b3,b4,b5,b6]) rfl ⟨_,rfl,HS6.out.rq,?_,?_⟩
       ·have hk:∀ (V:World) (o:Nat) (z:Value),Src V bs→Src (V.setCell ⟨Bg+1,o,none⟩ z) bs:=fun V o z q=>q.keep fun i hi=>Below.heap_setCell _ _ _ _ (by show i≠Bg+1;omega)
        exact hk _ _ _ (hk _ _ _ (hk _ _ _ (hk _ _ _ (hk _ _ _ (hk _ _ _ (hk _ _ _ HS6.out.src))))))
       ·have hk:∀ (V:World) (o:Nat) (z:Value),Mod (fun b=>b=bs) w V→Mod (fun b=>b=bs) w (V.setCell ⟨Bg+1,o,none⟩ z):=fun V o z q=>q.setCell (p:=⟨Bg+1,o,none⟩) (.inr (by show w.heap.size≤Bg+1;omega)) z
        exact hk _ _ _ (hk _ _ _ (hk _ _ _ (hk _ _ _ (hk _ _ _ (hk _ _ _ (hk _ _ _ HS6.out.md))))))
      ·by_cases h1:n=1
       ·subst h1
        have HC:=aa (lV w8 [0,-1,4096,4097] 3);have hA:=ae w8 (.cells ([0,-1,4096,4097].map (Value.int .i64)).toArray 3);have HSA:=aa (HS8.out.below hA);have hne:w8.heap.size≠bs:=by have:=HS8.out.src.lt;omega
        have HPK:=aa (jD bs w8.heap.size 4 [0,-1,4096,4097] _ (by decide) (by decide) (by decide) (by decide) (by simp) hne HC.out HSA.out.src);clear hA HC qf q0 q1 q2 q3 q4 q5 q6 h0
        go_wp2_with fail
        refine HPK.out.mono ?_;rintro e w9 ⟨n,rfl,hnm,hs9,hm9⟩;have HS9:=aa (HSA.out.call hs9 hm9 hgs hrs hqn);clear hs9 hm9;have q2:=HS9.out.qc 2 _ rfl;have qf:=HS9.out.qf
        have hnb:-9223372036854775808≤n∧n≤9223372036854775807:=by
         simp only [List.mem_cons,List.not_mem_nil,or_false] at hnm;omega
        go_upto_region 21 with (fail)
        have HS6:=aa (HS9.out.set { r4 with Gc:=n } 2 (.int .i64 n) rfl (HS9.out.rq.setE hnb) hgq hrq hqs hqz)
        generalize World.setCell _ _ _=wc at *;have qL:=HS6.out.qc;have q0:=qL 0 _ rfl;have q1:=qL 1 _ rfl;have q2:=qL 2 _ rfl;have q3:=qL 3 _ rfl;have q4:=qL 4 _ rfl;have q5:=qL 5 _ rfl;have q6:=qL 6 _ rfl;clear qL;have hrb:=HS6.out.rb
        have bL:∀ (j:Nat) (z:Value),[.int .i64 0,.int .i64 0,.int .i64 0,.int .i64 0,.string ⟨#[]⟩,.string ⟨#[]⟩,.string ⟨#[]⟩][j]?=some z→wc.cell? ⟨Bg+1,j,none⟩=some z:=fun j z hz=>by
         simp only [World.cell?,hrb];simpa using hz
        have b0:=bL 0 _ rfl;have b1:=bL 1 _ rfl;have b2:=bL 2 _ rfl;have b3:=bL 3 _ rfl;have b4:=bL 4 _ rfl;have b5:=bL 5 _ rfl;have b6:=bL 6 _ rfl;have bf:∀ i,wc.frozen? ⟨Bg+1,i,none⟩=false:=fun i=>by simp [World.frozen?,hrb]
        clear bL hrb;go_wp2;refine bodyPost_ret (v:=mO ({ r4 with Gc:=n })) (by simp [mO,results,Tryz.results18,go_sem,b0,b1,b2,b3,b4,b5,b6]) rfl ⟨_,rfl,HS6.out.rq,?_,?_⟩
        ·have hk:∀ (V:World) (o:Nat) (z:Value),Src V bs→Src (V.setCell ⟨Bg+1,o,none⟩ z) bs:=fun V o z q=>q.keep fun i hi=>Below.heap_setCell _ _ _ _ (by show i≠Bg+1;omega)
         exact hk _ _ _ (hk _ _ _ (hk _ _ _ (hk _ _ _ (hk _ _ _ (hk _ _ _ (hk _ _ _ HS6.out.src))))))
        ·have hk:∀ (V:World) (o:Nat) (z:Value),Mod (fun b=>b=bs) w V→Mod (fun b=>b=bs) w (V.setCell ⟨Bg+1,o,none⟩ z):=fun V o z q=>q.setCell (p:=⟨Bg+1,o,none⟩) (.inr (by show w.heap.size≤Bg+1;omega)) z
         exact hk _ _ _ (hk _ _ _ (hk _ _ _ (hk _ _ _ (hk _ _ _ (hk _ _ _ (hk _ _ _ HS6.out.md))))))
       ·by_cases h2:n=2
        ·subst h2
         have HPK:=aa (bO bs 0 6 w8 (by omega) (by omega) (by omega) HS8.out.src);clear qf q0 q1 q2 q3 q4 q5 q6 h0 h1
         go_wp2_with fail
         refine HPK.out.mono ?_;rintro e w9 ⟨n,rfl,hna,hnb',hs9,hm9⟩;have HS9:=aa (HS8.out.call hs9 hm9 hgs hrs hqn);clear hs9 hm9;have q3:=HS9.out.qc 3 _ rfl;have qf:=HS9.out.qf
         go_upto_region 21 with (fail)
         have HS6:=aa (HS9.out.set { r4 with Gg:=n } 3 (.int .i64 n) rfl (HS9.out.rq.setP (by omega)) hgq hrq hqs hqz)
         generalize World.setCell _ _ _=wc at *;have qL:=HS6.out.qc;have q0:=qL 0 _ rfl;have q1:=qL 1 _ rfl;have q2:=qL 2 _ rfl;have q3:=qL 3 _ rfl;have q4:=qL 4 _ rfl;have q5:=qL 5 _ rfl;have q6:=qL 6 _ rfl;clear qL;have hrb:=HS6.out.rb
         have bL:∀ (j:Nat) (z:Value),[.int .i64 0,.int .i64 0,.int .i64 0,.int .i64 0,.string ⟨#[]⟩,.string ⟨#[]⟩,.string ⟨#[]⟩][j]?=some z→wc.cell? ⟨Bg+1,j,none⟩=some z:=fun j z hz=>by
          simp only [World.cell?,hrb];simpa using hz
         have b0:=bL 0 _ rfl;have b1:=bL 1 _ rfl;have b2:=bL 2 _ rfl;have b3:=bL 3 _ rfl;have b4:=bL 4 _ rfl;have b5:=bL 5 _ rfl;have b6:=bL 6 _ rfl;have bf:∀ i,wc.frozen? ⟨Bg+1,i,none⟩=false:=fun i=>by simp [World.frozen?,hrb]
         clear bL hrb;go_wp2;refine bodyPost_ret (v:=mO ({ r4 with Gg:=n })) (by simp [mO,results,Tryz.results18,go_sem,b0,b1,b2,b3,b4,b5,b6]) rfl ⟨_,rfl,HS6.out.rq,?_,?_⟩
         ·have hk:∀ (V:World) (o:Nat) (z:Value),Src V bs→Src (V.setCell ⟨Bg+1,o,none⟩ z) bs:=fun V o z q=>q.keep fun i hi=>Below.heap_setCell _ _ _ _ (by show i≠Bg+1;omega)
          exact hk _ _ _ (hk _ _ _ (hk _ _ _ (hk _ _ _ (hk _ _ _ (hk _ _ _ (hk _ _ _ HS6.out.src))))))
         ·have hk:∀ (V:World) (o:Nat) (z:Value),Mod (fun b=>b=bs) w V→Mod (fun b=>b=bs) w (V.setCell ⟨Bg+1,o,none⟩ z):=fun V o z q=>q.setCell (p:=⟨Bg+1,o,none⟩) (.inr (by show w.heap.size≤Bg+1;omega)) z
          exact hk _ _ _ (hk _ _ _ (hk _ _ _ (hk _ _ _ (hk _ _ _ (hk _ _ _ (hk _ _ _ HS6.out.md))))))
        ·by_cases h3:n=3
         ·subst h3
          clear h0 h1 h2
          go_upto_region 21 with (fail)
          have HS6:=aa (HS8.out.set { r4 with near:=⟨#[122,122]⟩ } 5 (.string ⟨#[122,122]⟩) rfl (HS8.out.rq.setN (by decide)) hgq hrq hqs hqz)
          generalize World.setCell _ _ _=wc at *;have qL:=HS6.out.qc;have q0:=qL 0 _ rfl;have q1:=qL 1 _ rfl;have q2:=qL 2 _ rfl;have q3:=qL 3 _ rfl;have q4:=qL 4 _ rfl;have q5:=qL 5 _ rfl;have q6:=qL 6 _ rfl;clear qL;have hrb:=HS6.out.rb
          have bL:∀ (j:Nat) (z:Value),[.int .i64 0,.int .i64 0,.int .i64 0,.int .i64 0,.string ⟨#[]⟩,.string ⟨#[]⟩,.string ⟨#[]⟩][j]?=some z→wc.cell? ⟨Bg+1,j,none⟩=some z:=fun j z hz=>by
           simp only [World.cell?,hrb];simpa using hz
          have b0:=bL 0 _ rfl;have b1:=bL 1 _ rfl;have b2:=bL 2 _ rfl;have b3:=bL 3 _ rfl;have b4:=bL 4 _ rfl;have b5:=bL 5 _ rfl;have b6:=bL 6 _ rfl;have bf:∀ i,wc.frozen? ⟨Bg+1,i,none⟩=false:=fun i=>by simp [World.frozen?,hrb]
          clear bL hrb;go_wp2;refine bodyPost_ret (v:=mO ({ r4 with near:=⟨#[122,122]⟩ })) (by simp [mO,results,Tryz.results18,go_sem,b0,b1,b2,b3,b4,b5,b6]) rfl ⟨_,rfl,HS6.out.rq,?_,?_⟩
          ·have hk:∀ (V:World) (o:Nat) (z:Value),Src V bs→Src (V.setCell ⟨Bg+1,o,none⟩ z) bs:=fun V o z q=>q.keep fun i hi=>Below.heap_setCell _ _ _ _ (by show i≠Bg+1;omega)
           exact hk _ _ _ (hk _ _ _ (hk _ _ _ (hk _ _ _ (hk _ _ _ (hk _ _ _ (hk _ _ _ HS6.out.src))))))
          ·have hk:∀ (V:World) (o:Nat) (z:Value),Mod (fun b=>b=bs) w V→Mod (fun b=>b=bs) w (V.setCell ⟨Bg+1,o,none⟩ z):=fun V o z q=>q.setCell (p:=⟨Bg+1,o,none⟩) (.inr (by show w.heap.size≤Bg+1;omega)) z
           exact hk _ _ _ (hk _ _ _ (hk _ _ _ (hk _ _ _ (hk _ _ _ (hk _ _ _ (hk _ _ _ HS6.out.md))))))
         ·by_cases h4:n=4
          ·subst h4
           clear h0 h1 h2 h3
           go_upto_region 21 with (fail)
           have HS6:=aa (HS8.out.set { r4 with sep:=⟨#[45]⟩ } 6 (.string ⟨#[45]⟩) rfl (HS8.out.rq.setQ (by decide)) hgq hrq hqs hqz)
           generalize World.setCell _ _ _=wc at *;have qL:=HS6.out.qc;have q0:=qL 0 _ rfl;have q1:=qL 1 _ rfl;have q2:=qL 2 _ rfl;have q3:=qL 3 _ rfl;have q4:=qL 4 _ rfl;have q5:=qL 5 _ rfl;have q6:=qL 6 _ rfl;clear qL;have hrb:=HS6.out.rb
           have bL:∀ (j:Nat) (z:Value),[.int .i64 0,.int .i64 0,.int .i64 0,.int .i64 0,.string ⟨#[]⟩,.string ⟨#[]⟩,.string ⟨#[]⟩][j]?=some z→wc.cell? ⟨Bg+1,j,none⟩=some z:=fun j z hz=>by
            simp only [World.cell?,hrb];simpa using hz
           have b0:=bL 0 _ rfl;have b1:=bL 1 _ rfl;have b2:=bL 2 _ rfl;have b3:=bL 3 _ rfl;have b4:=bL 4 _ rfl;have b5:=bL 5 _ rfl;have b6:=bL 6 _ rfl;have bf:∀ i,wc.frozen? ⟨Bg+1,i,none⟩=false:=fun i=>by simp [World.frozen?,hrb]
           clear bL hrb;go_wp2;refine bodyPost_ret (v:=mO ({ r4 with sep:=⟨#[45]⟩ })) (by simp [mO,results,Tryz.results18,go_sem,b0,b1,b2,b3,b4,b5,b6]) rfl ⟨_,rfl,HS6.out.rq,?_,?_⟩
           ·have hk:∀ (V:World) (o:Nat) (z:Value),Src V bs→Src (V.setCell ⟨Bg+1,o,none⟩ z) bs:=fun V o z q=>q.keep fun i hi=>Below.heap_setCell _ _ _ _ (by show i≠Bg+1;omega)
            exact hk _ _ _ (hk _ _ _ (hk _ _ _ (hk _ _ _ (hk _ _ _ (hk _ _ _ (hk _ _ _ HS6.out.src))))))
           ·have hk:∀ (V:World) (o:Nat) (z:Value),Mod (fun b=>b=bs) w V→Mod (fun b=>b=bs) w (V.setCell ⟨Bg+1,o,none⟩ z):=fun V o z q=>q.setCell (p:=⟨Bg+1,o,none⟩) (.inr (by show w.heap.size≤Bg+1;omega)) z
            exact hk _ _ _ (hk _ _ _ (hk _ _ _ (hk _ _ _ (hk _ _ _ (hk _ _ _ (hk _ _ _ HS6.out.md))))))
          ·go_upto_region 21 with (fail)
           have HS6:=HS8;generalize w8=wc at *;clear q0 q1 q2 q3 q4 q5 q6;have qL:=HS6.out.qc;have q0:=qL 0 _ rfl;have q1:=qL 1 _ rfl;have q2:=qL 2 _ rfl;have q3:=qL 3 _ rfl;have q4:=qL 4 _ rfl;have q5:=qL 5 _ rfl;have q6:=qL 6 _ rfl;clear qL;have hrb:=HS6.out.rb
           have bL:∀ (j:Nat) (z:Value),[.int .i64 0,.int .i64 0,.int .i64 0,.int .i64 0,.string ⟨#[]⟩,.string ⟨#[]⟩,.string ⟨#[]⟩][j]?=some z→wc.cell? ⟨Bg+1,j,none⟩=some z:=fun j z hz=>by
            simp only [World.cell?,hrb];simpa using hz
           have b0:=bL 0 _ rfl;have b1:=bL 1 _ rfl;have b2:=bL 2 _ rfl;have b3:=bL 3 _ rfl;have b4:=bL 4 _ rfl;have b5:=bL 5 _ rfl;have b6:=bL 6 _ rfl;have bf:∀ i,wc.frozen? ⟨Bg+1,i,none⟩=false:=fun i=>by simp [World.frozen?,hrb]
           clear bL hrb;go_wp2;refine bodyPost_ret (v:=mO r4) (by simp [mO,results,Tryz.results18,go_sem,b0,b1,b2,b3,b4,b5,b6]) rfl ⟨_,rfl,HS6.out.rq,?_,?_⟩
           ·have hk:∀ (V:World) (o:Nat) (z:Value),Src V bs→Src (V.setCell ⟨Bg+1,o,none⟩ z) bs:=fun V o z q=>q.keep fun i hi=>Below.heap_setCell _ _ _ _ (by show i≠Bg+1;omega)
            exact hk _ _ _ (hk _ _ _ (hk _ _ _ (hk _ _ _ (hk _ _ _ (hk _ _ _ (hk _ _ _ HS6.out.src))))))
           ·have hk:∀ (V:World) (o:Nat) (z:Value),Mod (fun b=>b=bs) w V→Mod (fun b=>b=bs) w (V.setCell ⟨Bg+1,o,none⟩ z):=fun V o z q=>q.setCell (p:=⟨Bg+1,o,none⟩) (.inr (by show w.heap.size≤Bg+1;omega)) z
            exact hk _ _ _ (hk _ _ _ (hk _ _ _ (hk _ _ _ (hk _ _ _ (hk _ _ _ (hk _ _ _ HS6.out.md))))))
open Go.Maps Go.Shelf
theorem uX.open2 {w0 w w':World}{e:Ending}(hb0:Below w0.heap.size w0 w)(hlt:w0.heap.size<w.heap.size)(h:uX w0.heap.size w e w') :
  ∃ (g:af) (a:bN),e=.returned (.agg #[.string g.name,.int .u64 g.id,.int .i64 g.seq,.int .i64 g.Gd,.int .i64 g.next,.slice a.tp g.tags.length a.tc,.slice a.dp g.Gb.length a.dc,.slice a.vp g.F9.length a.vc,.slice a.hp g.history.length a.hc])∧dN (fun b=>b≠w0.heap.size) w' g a∧sU g∧Src w' w0.heap.size∧Below w0.heap.size w0 w'∧w0.heap.size<w'.heap.size:=by
 obtain ⟨g,t,d,v,h,rfl,⟨t',d',v',h',e',h1,h2,h3,h4⟩,hB,hs,hst,hz,hk⟩:=h;injection e' with _ e'
 injection e' with _ e'
 injection e' with _ e'
 injection e' with _ e'
 injection e' with _ e'
 injection e' with e1 e'
 injection e' with e2 e'
 injection e' with e3 e'
 injection e' with e4 _
 subst e1;subst e2;subst e3;subst e4;obtain ⟨tp,tc,rfl,_⟩:=h1.cap;obtain ⟨dp,dc,rfl,_⟩:=h2.cap;obtain ⟨vp,vc,rfl,_⟩:=h3.cap;obtain ⟨hp,hc,rfl,_⟩:=h4.cap;have hm:Mv (fun b=>w.heap.size≤b) (fun b=>b≠w0.heap.size) w' w':=⟨Nat.le_refl _,fun b _ hb=>⟨by show b≠_;omega,rfl⟩⟩;refine ⟨g,⟨tp,tc,dp,dc,vp,vc,hp,hc⟩,rfl,⟨(RdS.moves aF.moves).mv hm h1,(RdS.moves aO.moves).mv hm h2,(RdS.moves aN.moves).mv hm h3,(RdS.moves lF.moves).mv hm h4⟩,hB,hs,⟨hst.os.trans hb0.os,hst.tape.trans hb0.tape,hst.output.trans hb0.output,Nat.le_trans hb0.size hz,fun k q=>?_⟩,by omega⟩;have:=hb0.size;exact (hk k (by omega) (by omega)).trans (hb0.block k q)
theorem DR (x:List (Int × Int)):pq x x=true:=by simp [pq]
theorem Dk.form {g:af}{r:aY}{w w':World}{e:Ending}(h:Dk g r w e w') :
  ∃ v xs,e=.returned (.tuple #[v,.int .i64 (kP g r)])∧fH w' w.heap.size v xs∧tK g r xs∧(xs.length=if kP g r=0 then g.Gb.length else 0)∧Below w.heap.size w w':=by
 obtain ⟨hb,⟨hp,rfl⟩ | ⟨hp,v,xs,rfl,ho,hl,hx⟩⟩:=h
 ·exact ⟨_,[],rfl,fH.nil _ _,fun i d x _ hx=>(by cases hx),by rw [if_neg hp];rfl,hb⟩
 ·exact ⟨v,xs,by rw [hp],ho,hx,by rw [if_pos hp];exact hl,hb⟩
theorem dN.keep {bs Bg:Nat}{w w':World}{g:af}{a:bN}(h:dN (fun b=>b≠bs∧b<Bg) w g a)(hm:Mod (fun b=>b=bs) w w'):dN (fun b=>b≠bs∧b<Bg) w' g a :=
 h.mv ⟨hm.size,fun b hb ho=>⟨ho,hm.block b hb ho.1⟩⟩
theorem dN.lt {bs:Nat}{w:World}{g:af}{a:bN}(h:dN (fun b=>b≠bs) w g a):dN (fun b=>b≠bs∧b<w.heap.size) w g a:=h.mv ⟨Nat.le_refl _,fun _ hb ho=>⟨⟨ho,hb⟩,rfl⟩⟩
theorem Mod.bl {bs:Nat}{w w':World}(h:Below w.heap.size w w'):Mod (fun b=>b=bs) w w':=Mod.of_below h
structure iw (w0:World)(Bg Bq:Nat)(g:af)(a:bN)(r:aY)(w:World):Prop where
 src:Src w w0.heap.size
 bl:Below w0.heap.size w0 w
 gr:dN (fun b=>b≠w0.heap.size∧b<Bg) w g a
 gb:w.heap[Bg]?=some (.cells #[.string g.name,.int .u64 g.id,.int .i64 g.seq,.int .i64 g.Gd,.int .i64 g.next,.slice a.tp g.tags.length a.tc,.slice a.dp g.Gb.length a.dc,.slice a.vp g.F9.length a.vc,.slice a.hp g.history.length a.hc] 31 (0,0))
 qb:w.heap[Bq]?=some (.cells #[.int .i64 r.Gi,.int .i64 r.Gh,.int .i64 r.Gc,.int .i64 r.Gg,.string r.tag,.string r.near,.string r.sep] 35 (0,0))
 rq:dK r
 sf:Sfx w
theorem iw.below {w0 w w':World}{Bg Bq:Nat}{g:af}{a:bN}{r:aY}(h:iw w0 Bg Bq g a r w)(hb:Below w.heap.size w w'):iw w0 Bg Bq g a r w' :=
 ⟨h.src.keep fun i hi=>hb.block i (Nat.lt_of_le_of_lt hi h.src.lt),h.bl.trans (hb.mono h.bl.size),h.gr.keep (Mod.bl hb),(hb.block _ (lt_of_block h.gb)).trans h.gb,(hb.block _ (lt_of_block h.qb)).trans h.qb,h.rq,h.sf.below hb⟩
theorem iw.call {w0 w w':World}{Bg Bq:Nat}{g:af}{a:bN}{r:aY}(h:iw w0 Bg Bq g a r w)(hs:Src w' w0.heap.size)(hm:Mod (fun i=>i=w0.heap.size) w w')(h0:0<w0.heap.size)(hg:Bg≠w0.heap.size)(hq:Bq≠w0.heap.size):iw w0 Bg Bq g a r w' :=
 ⟨hs,h.bl.trans (hm.below h.bl.size (fun k e=>by omega)),h.gr.keep hm,(hm.block _ (lt_of_block h.gb) hg).trans h.gb,(hm.block _ (lt_of_block h.qb) hq).trans h.qb,h.rq,h.sf.mod hm (by omega)⟩
theorem iw.gc {w0 w:World}{Bg Bq:Nat}{g:af}{a:bN}{r:aY}(h:iw w0 Bg Bq g a r w)(i:Nat)(z:Value)(hz:[.string g.name,.int .u64 g.id,.int .i64 g.seq,.int .i64 g.Gd,.int .i64 g.next,.slice a.tp g.tags.length a.tc,.slice a.dp g.Gb.length a.dc,.slice a.vp g.F9.length a.vc,.slice a.hp g.history.length a.hc][i]?=some z):w.cell? ⟨Bg,i,none⟩=some z:=by
 simp only [World.cell?,h.gb];simpa using hz
theorem iw.qc {w0 w:World}{Bg Bq:Nat}{g:af}{a:bN}{r:aY}(h:iw w0 Bg Bq g a r w)(i:Nat)(z:Value)(hz:[.int .i64 r.Gi,.int .i64 r.Gh,.int .i64 r.Gc,.int .i64 r.Gg,.string r.tag,.string r.near,.string r.sep][i]?=some z):w.cell? ⟨Bq,i,none⟩=some z:=by
 simp only [World.cell?,h.qb];simpa using hz
theorem iw.qf {w0 w:World}{Bg Bq:Nat}{g:af}{a:bN}{r:aY}(h:iw w0 Bg Bq g a r w)(i:Nat):w.frozen? ⟨Bq,i,none⟩=false:=by simp [World.frozen?,h.qb]
theorem iw.set {w0 w:World}{Bg Bq:Nat}{g:af}{a:bN}{r:aY}(h:iw w0 Bg Bq g a r w)(r':aY)(j:Nat)(v:Value)(hv:(#[.int .i64 r.Gi,.int .i64 r.Gh,.int .i64 r.Gc,.int .i64 r.Gg,.string r.tag,.string r.near,.string r.sep]:Array Value).setIfInBounds j v=#[.int .i64 r'.Gi,.int .i64 r'.Gh,.int .i64 r'.Gc,.int .i64 r'.Gg,.string r'.tag,.string r'.near,.string r'.sep])(hr:dK r')(hg:Bg<Bq)(hq:w0.heap.size<Bq):iw w0 Bg Bq g a r' (w.setCell ⟨Bq,j,none⟩ v) :=
 ⟨h.src.keep fun i hi=>Below.heap_setCell _ _ _ _ (by show i≠Bq;omega),h.bl.setCell (p:=⟨Bq,j,none⟩) (by show w0.heap.size≤Bq;omega) v,h.gr.mv ⟨by simp [World.setCell],fun b hb ho=>⟨ho,Below.heap_setCell _ _ _ _ (by show b≠Bq;omega)⟩⟩,(Below.heap_setCell _ _ _ _ (by show Bg≠Bq;omega)).trans h.gb,(block_setCell v h.qb).trans (by rw [hv]),hr,
  ⟨by simpa [World.setCell] using h.sf.1,fun i l hl=>by
   rw [World.cell?_of_block (w:=w) (Below.heap_setCell w ⟨Bq,j,none⟩ v 0 (by show 0≠Bq;omega))]
   exact h.sf.2 i l hl⟩⟩
theorem Aw {g:af}{r:aY}{d:az}{t:ByteArray}(ht:t.toList.isEmpty=false){x y:List (Int × Int)}(hx:iE x (kI g (r.tg t) d))(hy:iE y (kI g (r.tg ⟨#[]⟩) d)) :
  (bI d.tags t=true→x=y)∧(bI d.tags t=false→x=[]):=by
 refine ⟨fun h=>hx.eq hy fun n=>by rw [uk t ht,h];simp,fun h=>hx.eq (y:=[]) (T:=fun _=>False) ⟨yP,fun n=>⟨fun q=>absurd q (jd n),fun q=>q.elim⟩⟩ fun n=>by rw [uk t ht,h];simp⟩
end Go.Proofs.YtjdfihglehfelaaGreatDoor
