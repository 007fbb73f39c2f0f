/- Lemmas: PolK, PolT, LaidS. -/
import Derived.Test.YtjdfihglehfelaaGreatDoorPk47
import Derived.Test.YtjdfihglehfelaaGreatDoorPk46
import Derived.LaidMore
import Derived.Stop.Joined
set_option maxRecDepth 100000
set_option maxHeartbeats 32000000
set_option linter.all false
namespace Go.Proofs.YtjdfihglehfelaaGreatDoor
open Go.RowKit Go.Maps Go.Shelf
def awT:ByteArray:=⟨#[115,105,116,101,61,49]⟩
def iU:af:=⟨⟨#[118,103]⟩,0,0,1,0,[],[⟨⟨#[97]⟩,1,0,4,false,false,[awT]⟩,⟨⟨#[98]⟩,2,0,4,false,false,[]⟩],[],[]⟩
def rC:aY:=⟨1,1,1,4,⟨#[]⟩,⟨#[]⟩,⟨#[115,105,116,101,61]⟩⟩
theorem xO:kP iU rC=0:=by kernel_rfl
theorem Et:jU iU rC 0=awT:=by kernel_rfl
theorem Eb:jU iU rC 1=⟨#[98,32]⟩:=by kernel_rfl
theorem EC:GIn iU:=by
 refine ⟨⟨by decide,⟨by decide,fun s hs=>by cases hs⟩,by decide,by decide,by decide,fun d hd=>?_,fun v hv=>(by cases hv),fun h hh=>(by cases hh)⟩,⟨by decide,fun d hd=>?_,by decide,fun v hv=>(by cases hv)⟩,fun v hv=>(by cases hv),fun v hv=>(by cases hv)⟩
 ·simp only [iU,List.mem_cons,List.not_mem_nil,or_false] at hd
  rcases hd with rfl | rfl
  ·exact ⟨by decide,by decide,fun s hs=>by obtain rfl:=List.mem_singleton.1 hs;decide⟩
  ·exact ⟨by decide,by decide,fun s hs=>by cases hs⟩
 ·simp only [iU,List.mem_cons,List.not_mem_nil,or_false] at hd
  rcases hd with rfl | rfl <;> decide
theorem Ec:dK rC:=⟨by decide,by decide,by decide,by decide,by decide,by decide,by decide⟩
theorem wR (w:World)(hS:Sfx w) :
  Calls Tryz.prog 21 #[] w fun e w'=>e=.returned (.bool true)∧Below w.heap.size w w':=by
 have HSF:=aa hS;clear hS;go_enter Tryz.func21,Tryz.ntmps21
 go_upto_region 3 with (fail)
 generalize hW5:World.alloc (World.alloc (World.alloc (World.alloc w _) _) _) _=W5
 have b5:Below w.heap.size w W5:=by
  rw [← hW5];exact ((((Below.refl _ _).alloc (Nat.le_refl _) _).alloc (by simp <;> omega) _).alloc (by simp <;> omega) _).alloc (by simp <;> omega) _
 have h0:W5.heap[w.heap.size]?=some (.cells #[.string awT] 9 (0,0)):=by
  rw [← hW5,Below.heap_alloc _ _ _ (by simp <;> omega),Below.heap_alloc _ _ _ (by simp <;> omega),Below.heap_alloc _ _ _ (by simp <;> omega)];exact heap_alloc_new w _
 have h1:W5.heap[w.heap.size+1]?=some (.cells #[.string ⟨#[97]⟩,.int .u64 1,.int .i64 0,.int .i64 4,.bool false,.bool false,.slice (some ⟨w.heap.size,0,none⟩) 1 1,.string ⟨#[98]⟩,.int .u64 2,.int .i64 0,.int .i64 4,.bool false,.bool false,.slice none 0 0] 47 (0,0)):=by
  rw [← hW5,Below.heap_alloc _ _ _ (by simp <;> omega),Below.heap_alloc _ _ _ (by simp <;> omega)];exact lZ (by simp)
 have h2:W5.heap[w.heap.size+1+1]?=some (.cells #[.string ⟨#[118,103]⟩,.int .u64 0,.int .i64 0,.int .i64 1,.int .i64 0,.slice none 0 0,.slice (some ⟨w.heap.size+1,0,none⟩) 2 2,.slice none 0 0,.slice none 0 0] 31 (0,0)):=by
  rw [← hW5,Below.heap_alloc _ _ _ (by simp <;> omega)];exact lZ (by simp)
 have h3:W5.heap[w.heap.size+1+1+1]?=some (.cells #[.int .i64 1,.int .i64 1,.int .i64 1,.int .i64 4,.string ⟨#[]⟩,.string ⟨#[]⟩,.string ⟨#[115,105,116,101,61]⟩] 35 (0,0)):=by
  rw [← hW5];exact lZ (by simp)
 clear hW5;have ht:RdS aF 1 (fun _=>True) W5 [.slice (some ⟨w.heap.size,0,none⟩) 1 1] [awT]:=RdS.one (u:=[.string awT]) h0 trivial rfl rfl
 have hd:RdS aO 7 (fun _=>True) W5 [.slice (some ⟨w.heap.size+1,0,none⟩) 2 2] iU.Gb:=⟨_,2,rfl,by decide,by decide,fun _=>⟨_,0,rfl,lt_of_block h1,trivial,fun i x hx=>by
  match i,hx with
  | 0,hx =>
   obtain rfl:=Option.some.inj hx;refine ⟨[.string ⟨#[97]⟩,.int .u64 1,.int .i64 0,.int .i64 4,.bool false,.bool false,.slice (some ⟨w.heap.size,0,none⟩) 1 1],rfl,⟨_,rfl,ht⟩,fun j z hz=>?_⟩;simp only [World.cell?,h1]
   match j,hz with
   | 0,hz=>simpa using hz
   | 1,hz=>simpa using hz
   | 2,hz=>simpa using hz
   | 3,hz=>simpa using hz
   | 4,hz=>simpa using hz
   | 5,hz=>simpa using hz
   | 6,hz=>simpa using hz
   | j+7,hz=>simp at hz
  | 1,hx =>
   obtain rfl:=Option.some.inj hx;refine ⟨[.string ⟨#[98]⟩,.int .u64 2,.int .i64 0,.int .i64 4,.bool false,.bool false,.slice none 0 0],rfl,⟨_,rfl,RdS.nil⟩,fun j z hz=>?_⟩;simp only [World.cell?,h1]
   match j,hz with
   | 0,hz=>simpa using hz
   | 1,hz=>simpa using hz
   | 2,hz=>simpa using hz
   | 3,hz=>simpa using hz
   | 4,hz=>simpa using hz
   | 5,hz=>simpa using hz
   | 6,hz=>simpa using hz
   | j+7,hz=>simp at hz
  | i+2,hx=>simp [iU] at hx⟩⟩
 have hgr:dN (fun _=>True) W5 iU ⟨none,0,some ⟨w.heap.size+1,0,none⟩,2,none,0,none,0⟩:=⟨RdS.nil,hd,RdS.nil,RdS.nil⟩
 have gL:∀ (W:World),W.heap[w.heap.size+1+1]?=W5.heap[w.heap.size+1+1]?→∀ (j:Nat) (z:Value),[.string ⟨#[118,103]⟩,.int .u64 0,.int .i64 0,.int .i64 1,.int .i64 0,.slice none 0 0,.slice (some ⟨w.heap.size+1,0,none⟩) 2 2,.slice none 0 0,.slice none 0 0][j]?=some z→W.cell? ⟨w.heap.size+1+1,j,none⟩=some z:=fun W e j z hz=>by
  simp only [World.cell?,e,h2];simpa using hz
 have rL:∀ (W:World),W.heap[w.heap.size+1+1+1]?=W5.heap[w.heap.size+1+1+1]?→∀ (j:Nat) (z:Value),[.int .i64 1,.int .i64 1,.int .i64 1,.int .i64 4,.string ⟨#[]⟩,.string ⟨#[]⟩,.string ⟨#[115,105,116,101,61]⟩][j]?=some z→W.cell? ⟨w.heap.size+1+1+1,j,none⟩=some z:=fun W e j z hz=>by
  simp only [World.cell?,e,h3];simpa using hz
 have hz2:=lt_of_block h2;have hz3:=lt_of_block h3;have HGR:=aa hgr;have HB5:=aa b5;have HGL:=aa gL;have HRL:=aa rL;clear hgr hd ht h0 h1 h2 h3 b5;have gA:=gL W5 rfl;have g0:=gA 0 _ rfl;have g1:=gA 1 _ rfl;have g2:=gA 2 _ rfl;have g3:=gA 3 _ rfl;have g4:=gA 4 _ rfl;have g5:=gA 5 _ rfl;have g6:=gA 6 _ rfl;have g7:=gA 7 _ rfl;have g8:=gA 8 _ rfl;have rA:=rL W5 rfl;have r0:=rA 0 _ rfl;have r1:=rA 1 _ rfl;have r2:=rA 2 _ rfl;have r3:=rA 3 _ rfl;have r4:=rA 4 _ rfl;have r5:=rA 5 _ rfl;have r6:=rA 6 _ rfl;clear gL rL gA rA;have HP:=aa (jk iU ⟨none,0,some ⟨w.heap.size+1,0,none⟩,2,none,0,none,0⟩ rC W5 HGR.out EC Ec (HSF.out.below HB5.out))
 go_wp2_with fail
 clear g0 g1 g2 g3 g4 g5 g6 g7 g8 r0 r1 r2 r3 r4 r5 r6;refine HP.out.mono ?_;clear HP;intro e w6 hp;obtain ⟨xv,xs,rfl,hxo,-,hxl,hb6⟩:=hp.form;rw [xO,if_pos rfl] at hxl;rw [xO];obtain ⟨px,cx,rfl,_,_⟩:=hxo.cap;have hxl2:xs.length=2:=hxl;rw [hxl2];clear hxo hxl hxl2 hp;have HB6:=aa (HB5.out.trans (hb6.mono HB5.out.size));have HGR6:=aa (HGR.out.mv (ok':=fun _=>True) ⟨hb6.size,fun b hb _=>⟨trivial,hb6.block b hb⟩⟩);have gA:=HGL.out w6 (hb6.block _ hz2);have g0:=gA 0 _ rfl;have g1:=gA 1 _ rfl;have g2:=gA 2 _ rfl;have g3:=gA 3 _ rfl;have g4:=gA 4 _ rfl;have g5:=gA 5 _ rfl;have g6:=gA 6 _ rfl;have g7:=gA 7 _ rfl;have g8:=gA 8 _ rfl;have rA:=HRL.out w6 (hb6.block _ hz3);have r0:=rA 0 _ rfl;have r1:=rA 1 _ rfl;have r2:=rA 2 _ rfl;have r3:=rA 3 _ rfl;have r4:=rA 4 _ rfl;have r5:=rA 5 _ rfl;have r6:=rA 6 _ rfl;have HBK2:=aa (hb6.block _ hz2);have HBK3:=aa (hb6.block _ hz3);have hsz6:=hb6.size;clear gA rA hb6
 have htl:∀ d∈iU.Gb,d.tags.length≤1000000∧d.name.size≤1000000:=fun d hd=>by
  simp only [iU,List.mem_cons,List.not_mem_nil,or_false] at hd;rcases hd with rfl | rfl <;> decide
 have HTL:=aa htl;clear htl;have HC0:=aa (ug iU ⟨none,0,some ⟨w.heap.size+1,0,none⟩,2,none,0,none,0⟩ rC 0 w6 HGR6.out.Gb (by decide) HTL.out (by decide))
 go_wp2_with fail
 clear g0 g1 g2 g3 g4 g5 g6 g7 g8 r0 r1 r2 r3 r4 r5 r6;refine HC0.out.mono ?_;clear HC0;rintro e w7 ⟨rfl,hb7⟩;rw [Et];have HB7:=aa (HB6.out.trans (hb7.mono HB6.out.size));have HGR7:=aa (HGR6.out.mv (ok':=fun _=>True) ⟨hb7.size,fun b hb _=>⟨trivial,hb7.block b hb⟩⟩);have gA:=HGL.out w7 ((hb7.block _ (by omega)).trans HBK2.out);have g0:=gA 0 _ rfl;have g1:=gA 1 _ rfl;have g2:=gA 2 _ rfl;have g3:=gA 3 _ rfl;have g4:=gA 4 _ rfl;have g5:=gA 5 _ rfl;have g6:=gA 6 _ rfl;have g7:=gA 7 _ rfl;have g8:=gA 8 _ rfl;have rA:=HRL.out w7 ((hb7.block _ (by omega)).trans HBK3.out);have r0:=rA 0 _ rfl;have r1:=rA 1 _ rfl;have r2:=rA 2 _ rfl;have r3:=rA 3 _ rfl;have r4:=rA 4 _ rfl;have r5:=rA 5 _ rfl;have r6:=rA 6 _ rfl;clear gA rA hb7;have HC1:=aa (ug iU ⟨none,0,some ⟨w.heap.size+1,0,none⟩,2,none,0,none,0⟩ rC 1 w7 HGR7.out.Gb (by decide) HTL.out (by decide));have hs1:(awT.toList == [115,105,116,101,61,49])=true:=by simp [awT]
 go_wp2_with fail
 clear g0 g1 g2 g3 g4 g5 g6 g7 g8 r0 r1 r2 r3 r4 r5 r6;refine HC1.out.mono ?_;clear HC1;rintro e w8 ⟨rfl,hb8⟩;rw [Eb];have HB8:=aa (HB7.out.trans (hb8.mono HB7.out.size));clear hb8;go_wp2;go_ret;exact ⟨rfl,HB8.out⟩
def rE:List ByteArray:=[⟨#[102,97,115,116]⟩,⟨#[99,111,108,100]⟩,⟨#[115,105,116,101,61,49]⟩,⟨#[115,105,116,101,61,50]⟩,⟨#[122,122]⟩]
theorem AC:∀ s∈rE,s.size≤9223372036854775807∧eu s=true∧s.toList.isEmpty=false:=fun s hs=>by
 simp only [rE,List.mem_cons,List.not_mem_nil,or_false] at hs;rcases hs with rfl | rfl | rfl | rfl | rfl <;> exact ⟨by decide,by kernel_rfl,by simp⟩
theorem qz (l:List Int)(v:Value)(w:World)(hr:RdI w v l)(hl:∀ x∈l,-9223372036854775808≤x∧x≤9223372036854775807)(hS:Sfx w) :
  Calls Tryz.prog 7 #[v] w fun e w'=>e=.returned (.bool true)∧Below w.heap.size w w':=by
 have HR:=aa hr;clear hr;have HSF:=aa hS;clear hS;go_enter Tryz.func7,Tryz.ntmps7
 go_wp2_with fail
 refine (ED l v w HR.out hl).mono ?_;rintro e w1 ⟨rfl,hs1,hz1,hb1⟩
 go_wp2_with fail
 refine (Ca w.heap.size w1 hs1).mono ?_;intro e w2 hG;obtain ⟨g,a,rfl,hgr,hbt,hs2,hb2,hz2⟩:=hG.open2 hb1 hz1;have HSF2:=aa (HSF.out.below hb2);clear hs1 hz1 hb1 hG;have HGI:=aa hbt.gin;have HDL:Hid (g.Gb.length≤4∧g.F9.length≤44):=aa ⟨hbt.tame.dl,hbt.tame.vl⟩;have HDT:Hid (∀ d∈g.Gb,d.tags.length≤1000):=aa hbt.tame.dtags;clear hbt;have bA:=ae w2 (.cells #[.string g.name,.int .u64 g.id,.int .i64 g.seq,.int .i64 g.Gd,.int .i64 g.next,.slice a.tp g.tags.length a.tc,.slice a.dp g.Gb.length a.dc,.slice a.vp g.F9.length a.vc,.slice a.hp g.history.length a.hc] 31);have HGB:=aa (heap_alloc_new w2 (.cells #[.string g.name,.int .u64 g.id,.int .i64 g.seq,.int .i64 g.Gd,.int .i64 g.next,.slice a.tp g.tags.length a.tc,.slice a.dp g.Gb.length a.dc,.slice a.vp g.F9.length a.vc,.slice a.hp g.history.length a.hc] 31));have HGR:=aa (hgr.lt.keep (Mod.bl bA));have HSR:=aa (hs2.keep (w':=w2.alloc (.cells #[.string g.name,.int .u64 g.id,.int .i64 g.seq,.int .i64 g.Gd,.int .i64 g.next,.slice a.tp g.tags.length a.tc,.slice a.dp g.Gb.length a.dc,.slice a.vp g.F9.length a.vc,.slice a.hp g.history.length a.hc] 31)) fun i hi=>bA.block i (by omega));have HB3:=aa (hb2.trans (bA.mono hb2.size));have HSF3:=aa (HSF2.out.below bA);clear hgr hs2 hb2 bA HSF2
 go_upto_region 3 with (fail)
 generalize hW3:World.alloc w2 _=W3 at *;generalize hBg:w2.heap.size=Bg at *;clear hW3 hBg
 have gL:∀ (i:Nat) (z:Value),[.string g.name,.int .u64 g.id,.int .i64 g.seq,.int .i64 g.Gd,.int .i64 g.next,.slice a.tp g.tags.length a.tc,.slice a.dp g.Gb.length a.dc,.slice a.vp g.F9.length a.vc,.slice a.hp g.history.length a.hc][i]?=some z→W3.cell? ⟨Bg,i,none⟩=some z:=fun i z hz=>by
  simp only [World.cell?,HGB.out];simpa using hz
 have g0:=gL 0 _ rfl;have g1:=gL 1 _ rfl;have g2:=gL 2 _ rfl;have g3:=gL 3 _ rfl;have g4:=gL 4 _ rfl;have g5:=gL 5 _ rfl;have g6:=gL 6 _ rfl;have g7:=gL 7 _ rfl;have g8:=gL 8 _ rfl;clear gL;have hdl:=HDL.out.1;have hvl:=HDL.out.2;have HRQ:=aa (wX g a w.heap.size W3 ((RdS.moves aN.moves).mv ⟨Nat.le_refl _,fun b _ hb=>⟨hb.1,rfl⟩⟩ HGR.out.F9) (by omega) (fun v hv=>(HGI.out.tx.vol v hv).1) HSR.out)
 go_wp2_with fail
 clear g0 g1 g2 g3 g4 g5 g6 g7 g8;refine HRQ.out.mono ?_;rintro e w4 ⟨r,rfl,hrq,hs4,hm4⟩;clear HRQ;have h0w:=HSF.out.1;have hA:=ae w4 (.cells #[.int .i64 r.Gi,.int .i64 r.Gh,.int .i64 r.Gc,.int .i64 r.Gg,.string r.tag,.string r.near,.string r.sep] 35);have hN:=heap_alloc_new w4 (.cells #[.int .i64 r.Gi,.int .i64 r.Gh,.int .i64 r.Gc,.int .i64 r.Gg,.string r.tag,.string r.near,.string r.sep] 35);have hgs:Bg≠w.heap.size:=by omega
 have HST:Hid (iw w Bg w4.heap.size g a r (w4.alloc (.cells #[.int .i64 r.Gi,.int .i64 r.Gh,.int .i64 r.Gc,.int .i64 r.Gg,.string r.tag,.string r.near,.string r.sep] 35))):=aa
  ⟨hs4.keep fun i hi=>hA.block i (Nat.lt_of_le_of_lt hi hs4.lt),(HB3.out.trans (hm4.below HB3.out.size (fun k e=>by omega))).trans (hA.mono (Nat.le_trans HB3.out.size hm4.size)),(HGR.out.keep hm4).keep (Mod.bl hA),
   (hA.block _ (Nat.lt_of_lt_of_le (lt_of_block HGB.out) hm4.size)).trans ((hm4.block _ (lt_of_block HGB.out) hgs).trans HGB.out),hN,hrq,(HSF3.out.mod hm4 (by omega)).below hA⟩
 have hbq:Bg<w4.heap.size:=Nat.lt_of_lt_of_le (lt_of_block HGB.out) hm4.size;clear hA hN hrq hs4 hm4 HGB HGR HSR HB3 HSF3;unfold mO
 go_upto_region 4 with (fail)
 generalize hW5:World.alloc w4 _=W5 at *;generalize hBq:w4.heap.size=Bq at *;clear hW5 hBq;have hA:=ae W5 (.cells (rE.map Value.string).toArray 9);have HSA:=aa (HST.out.below hA);have hne:W5.heap.size≠w.heap.size:=by have:=HST.out.src.lt;omega
 have HW:=aa (qH w.heap.size 5 (some ⟨W5.heap.size,0,none⟩) rE _ (by decide) (by decide) (uW W5 rE 9 (fun k=>k≠w.heap.size) hne (by decide)) HSA.out.src);clear hA HST
 go_wp2_with fail
 refine HW.out.mono ?_;rintro e w6 ⟨t,rfl,htw,hs6,hm6⟩;have HS6:=aa (HSA.out.call hs6 hm6 h0w hgs (by omega));have HTW:=aa (AC t htw);clear hs6 hm6 HSA HW htw hne;have q4:=HS6.out.qc 4 _ rfl;have qf:=HS6.out.qf;have hqb:w.heap.size<Bq:=by omega
 have HS7:=aa (HS6.out.set (r.tg t) 4 (.string t) rfl (HS6.out.rq.setT HTW.out.1) hbq hqb)
 go_upto_region 5 with (fail)
 clear q4 qf HS6;generalize World.setCell w6 _ _=W7 at *;have gL:=HS7.out.gc;have g0:=gL 0 _ rfl;have g1:=gL 1 _ rfl;have g2:=gL 2 _ rfl;have g3:=gL 3 _ rfl;have g4:=gL 4 _ rfl;have g5:=gL 5 _ rfl;have g6:=gL 6 _ rfl;have g7:=gL 7 _ rfl;have g8:=gL 8 _ rfl;have qL:=HS7.out.qc;have q0:=qL 0 _ rfl;have q1:=qL 1 _ rfl;have q2:=qL 2 _ rfl;have q3:=qL 3 _ rfl;have q4:=qL 4 _ rfl;have q5:=qL 5 _ rfl;have q6:=qL 6 _ rfl;clear gL qL;have HP1:=aa (jk g a (r.tg t) W7 HS7.out.gr HGI.out HS7.out.rq HS7.out.sf)
 go_wp2_with fail
 clear g0 g1 g2 g3 g4 g5 g6 g7 g8 q0 q1 q2 q3 q4 q5 q6;refine HP1.out.mono ?_;clear HP1;intro e w8 hp8;obtain ⟨xv,xs,rfl,hxo,hxp,hxl,hb8⟩:=hp8.form;clear hp8;have HS8:=aa (HS7.out.below hb8);have HXO:=aa hxo;clear hxo;have HXP:=aa hxp;clear hxp;have hbq7:=lt_of_block HS7.out.qb;have hsz7:=HS7.out.bl.size;clear hb8 HS7;have q4:w8.cell? ⟨Bq,4,none⟩=some (.string t):=HS8.out.qc 4 _ rfl;have qf:=HS8.out.qf
 go_upto_region 7 with (fail)
 have HS9:=aa (HS8.out.set (r.tg ⟨#[]⟩) 4 (.string ⟨#[]⟩) rfl (HS8.out.rq.setT (by decide)) hbq hqb);have HXO9:=aa (HXO.out.blk (w':=w8.setCell ⟨Bq,4,none⟩ (.string ⟨#[]⟩)) fun k hk _=>Below.heap_setCell _ _ _ _ (by show k≠Bq;omega))
 go_upto_region 8 with (fail)
 clear q4 qf HS8 HXO;generalize World.setCell w8 _ _=W9 at *;have gL:=HS9.out.gc;have g0:=gL 0 _ rfl;have g1:=gL 1 _ rfl;have g2:=gL 2 _ rfl;have g3:=gL 3 _ rfl;have g4:=gL 4 _ rfl;have g5:=gL 5 _ rfl;have g6:=gL 6 _ rfl;have g7:=gL 7 _ rfl;have g8:=gL 8 _ rfl;have qL:=HS9.out.qc;have q0:=qL 0 _ rfl;have q1:=qL 1 _ rfl;have q2:=qL 2 _ rfl;have q3:=qL 3 _ rfl;have q4:=qL 4 _ rfl;have q5:=qL 5 _ rfl;have q6:=qL 6 _ rfl;clear gL qL;have HP2:=aa (jk g a (r.tg ⟨#[]⟩) W9 HS9.out.gr HGI.out HS9.out.rq HS9.out.sf)
 go_wp2_with fail
 clear g0 g1 g2 g3 g4 g5 g6 g7 g8 q0 q1 q2 q3 q4 q5 q6;refine HP2.out.mono ?_;clear HP2;intro e w10 hp10;obtain ⟨yv,ys,rfl,hyo,hyp,hyl,hb10⟩:=hp10.form;clear hp10;have HS10:=aa (HS9.out.below hb10);have HXO10:=aa (HXO9.out.below hb10);have HYO10:=aa hyo;clear hyo;have HYP:=aa hyp;clear hyp;have hsz9:=HS9.out.bl.size;clear hb10 HS9 HXO9;have hpe:=Db (g:=g) (r:=r) HTW.out.2.1;rw [hpe] at hxl ⊢;generalize kP g (r.tg ⟨#[]⟩)=pe at *;clear hpe;have hlen:ys.length=xs.length:=hyl.trans hxl.symm;have hxn:xs.length≤g.Gb.length:=by rw [hxl];split <;> omega
 clear hyl hxl;obtain ⟨px,cx,rfl,hcx1,hcx2⟩:=HXO10.out.cap;obtain ⟨py,cy,rfl,hcy1,hcy2⟩:=HYO10.out.cap;rw [hlen] at HYO10 hcy1 ⊢;have hpp:(pe != pe)=false:=by simp
 have hnn:((xs.length:Int) != (xs.length:Int))=false:=by simp
 go_upto_region 12 with (fail)
 clear hpp hnn;have HTS:=aa HTW.out.2.2
 go_loopw [11] (fun i wr=>∃ k:Nat,k≤xs.length∧i=.int .i64 k∧Below w10.heap.size w10 wr) (fun i _=>xs.length - (intOf i).toNat)
 case atStart=>exact ⟨0,Nat.zero_le _,rfl,Below.refl _ _⟩
 case round =>
  obtain ⟨k,hk,rfl,hB⟩:=hrel;have HB:=aa hB;clear hB;have HSR2:=aa (HS10.out.below HB.out)
  by_cases hlt:k<xs.length
  ·have hlt2:k<g.Gb.length:=by omega
   obtain ⟨d,hd⟩:=aj g.Gb k hlt2;obtain ⟨x,hx⟩:=aj xs k hlt;obtain ⟨y,hy⟩:=aj ys k (by omega);obtain ⟨b,off,us,hsp,hob,hbw,hul,hvs,hcv⟩:=HSR2.out.gr.Gb.elem hd;obtain ⟨tv,rfl,htr⟩:=hvs;obtain ⟨tp,tc,rfl,_,_⟩:=htr.cap;have HTR:=aa htr;clear htr;have g6:=HSR2.out.gc 6 _ rfl;rw [hsp] at g6;have d6:=hcv 6 _ rfl;have hdt:=HDT.out d (List.mem_of_getElem? hd);have HSD:=aa (Aw HTS.out (HXP.out k d x hd hx).1 (HYP.out k d y hd hy).1);obtain ⟨bx,ux,hpx,_,hbx,hux,hox⟩:=HXO10.out.at hx;obtain ⟨by',uy,hpy,_,hby,huy,hoy⟩:=HYO10.out.at hy;have hux2:wr.cell? ⟨bx,k,none⟩=some ux:=(HB.out.cell (p:=⟨bx,k,none⟩) hbx).trans hux;have huy2:wr.cell? ⟨by',k,none⟩=some uy:=(HB.out.cell (p:=⟨by',k,none⟩) hby).trans huy;have HOX:=aa (hox.below HB.out).rd;have HOY:=aa (hoy.below HB.out).rd;have hszr:=HB.out.size;clear hcv hul hsp hd hx hy hux huy hox hoy
   go_upto_region 16 with (fail)
   go_loop [12,13] (fun c i=>∃ j:Nat,j≤d.tags.length∧i=.int .i64 j∧c=.bool (bI (d.tags.take j) t)) (fun _ i=>d.tags.length - (intOf i).toNat)
   case atStart=>exact ⟨0,Nat.zero_le _,rfl,rfl⟩
   case round =>
    obtain ⟨j,hj,rfl,rfl⟩:=hrel
    by_cases hltj:j<d.tags.length
    ·obtain ⟨z,hz⟩:=aj d.tags j hltj
     obtain ⟨b3,off3,us3,hsp3,hob3,hbw3,hul3,hvs3,hcv3⟩:=HTR.out.elem hz;obtain rfl:us3=_:=hvs3;subst hsp3;have t0:=hcv3 0 _ rfl;rw [Nat.mul_one,Nat.add_zero] at t0;have HHS:Hid (bI (d.tags.take (j+1)) t=(bI (d.tags.take j) t||decide (z=t))):=aa (by rw [take_snoc' d.tags j z hz,fU]);clear hz hcv3 hul3;cases hh:bI (d.tags.take j) t with
     | true =>
      rw [hh] at HHS;go_wp2;go_round
      case rel=>exact ⟨j+1,by omega,by go_num,by rw [HHS.out];rfl⟩
      case measure=>simp [intOf];omega
     | false =>
      rw [hh,Bool.false_or] at HHS
      by_cases hzt:z=t
      ·have hb:(z.toList == t.toList)=true:=by rw [hzt];simp
       rw [decide_eq_true hzt] at HHS;clear hzt;go_wp2;go_round
       case rel=>exact ⟨j+1,by omega,by go_num,by rw [HHS.out]⟩
       case measure=>simp [intOf];omega
      ·have hb:=jI hzt
       rw [decide_eq_false hzt] at HHS;clear hzt;go_wp2;go_round
       case rel=>exact ⟨j+1,by omega,by go_num,by rw [HHS.out]⟩
       case measure=>simp [intOf];omega
    ·obtain rfl:j=d.tags.length:=by omega
     rw [List.take_length];subst hpx;subst hpy;have ex:=aG (show bx<wr.heap.size by omega) hux2;have ey:=aG (show by'<wr.heap.size by omega) huy2;cases hh:bI d.tags t with
     | true =>
      have hxy:=HSD.out.1 hh;subst hxy
      have HSM:∀ q:fo,Calls Tryz.prog 25 #[ux,uy] (ext wr q) fun e w'=>e=.returned (.bool true)∧Below (ext wr q).heap.size (ext wr q) w':=fun q=>by
       have:=DN x x ux uy (ext wr q) (HOX.out.below (dQ wr q)) (HOY.out.below (dQ wr q))
       rwa [DR] at this
      have HSMH:=aa HSM;clear HSM
      go_upto_region 19 with (fail)
      clear g6 d6
      (refine aU (by kernel_rfl) (by kernel_rfl) ?_;(repeat (go_big_quiet_step ((go_at_call 25;exact iH (HSMH.out _)))));(with_reducible refine wpQuiet_nil ?_);intro wq hwq;have hbq:=dY hwq;clear hwq)
      clear ex ey;have HBQ:=aa (HB.out.trans (hbq.mono hszr));go_wp2;go_roundw
      case rel=>exact ⟨k+1,by omega,by go_num,HBQ.out⟩
      case measure=>simp [intOf];omega
     | false =>
      obtain rfl:=HSD.out.2 hh;obtain ⟨pz,cz,rfl,_,_,_⟩:=HOX.out
      go_upto_region 19 with (fail)
      clear g6 d6
      (refine aU (by kernel_rfl) (by kernel_rfl) ?_;(repeat (go_big_quiet_step ((fail))));(with_reducible refine wpQuiet_nil ?_);intro wq hwq;have hbq:=dY hwq;clear hwq)
      clear ex ey;have HBQ:=aa (HB.out.trans (hbq.mono hszr));go_wp2;go_roundw
      case rel=>exact ⟨k+1,by omega,by go_num,HBQ.out⟩
      case measure=>simp [intOf];omega
  ·obtain rfl:k=xs.length:=by omega
   have g6:=HSR2.out.gc 6 _ rfl;have HAW:=aa (wR wr HSR2.out.sf);have HBF:=aa HSR2.out.bl
   go_wp2_with fail
   clear g6;refine HAW.out.mono ?_;rintro e w11 ⟨rfl,hb11⟩;have HB11:=aa (HBF.out.trans (hb11.mono HBF.out.size));clear hb11;go_wp2;go_ret;exact ⟨rfl,HB11.out⟩
open Go.ChangeShapes Go.WideShapes Go.ChangeAt Go.WideMaps Go.WideElems
def nC {H : Type} : List (String × DataW H) := [("volumegroup/names.suffixes", Rows.laid_volumegroup_names_suffixes)]
theorem BU : Tryz.prog.globalNamed "volumegroup/names.suffixes" = some 0 := by kernel_rfl
theorem BB:(Tryz.prog.globals[0]?).map (·.type)=some 248:=by kernel_rfl
theorem Cj (os:Os)(args:Array Value):laidMetH Tryz.prog nC ((World.doorLaid Tryz.prog 400 os).forCall (fun _ _=>0) ⟨#[],args,[]⟩).memory :=
 laidMetH_of_parts3 (fuel:=8) (laidMet_of_run' 8 (by kernel_rfl) (by kernel_rfl)) (by kernel_rfl) (by kernel_rfl)
theorem vW {W:World}(h:laidMetH Tryz.prog nC W):Sfx W:=by
 rw [MakeChecks.laidMetH_plain _ _ _ (by kernel_rfl)] at h;obtain ⟨ps,⟨g0,t0,cs0,f0,p0,q0,hg0,ht0,hv0,hd0,_,_⟩,_,_⟩:=h;obtain rfl:=Option.some.inj (BU.symm.trans hg0);obtain rfl:=Option.some.inj (BB.symm.trans ht0);obtain ⟨xs,m1,rfl,hx1,hlen,hn,hel⟩:=DataW.trod_array Tryz.underlying248 hd0;have c1:Tryz.prog.cellsOf 9=1:=by kernel_rfl
 have c5:Tryz.prog.cellsOf 248=5:=by kernel_rfl
 simp only [Prod.mk.injEq,DataW.agg.injEq] at hx1;rw [c5] at hlen;have hx2:=hx1.1;unfold Rows.laid_volumegroup_names_suffixes at hx2;injection hx2 with hx2
 obtain ⟨l⟩:=cs0;have hl:l.length=5:=by simpa using hlen
 have key:∀ (i:Nat) (s:List UInt8),([] :: nV)[i]?=some s→l[i]?=some (.string ⟨s.toArray⟩):=fun i s hs=>by
  have hi:i<5:=by
   have:=(List.getElem?_eq_some_iff.1 hs).1;simpa [nV] using this
  have he:=hel i hi;obtain ⟨x,hx⟩:=aj xs i (by omega);rw [hx,c1] at he;obtain ⟨t,e1,e2,_⟩:=DataW.trod_string Tryz.underlying9 he;have hxi:(xs.map (·.1))[i]?=some x.1:=by rw [List.getElem?_map,hx];rfl
  rw [← hx2,e2] at hxi
  have h1:l[i]?=some (.string t):=by
   have:=congrArg (fun z:List Value=>z[0]?) e1;simpa [List.getElem?_take,List.getElem?_drop] using this
  have h2:t.data.toList=s:=by
   rcases (show i=0∨i=1∨i=2∨i=3∨i=4 by omega) with rfl | rfl | rfl | rfl | rfl <;>
    (have e3:=Option.some.inj hs;subst e3;simpa [Rows.laid_volumegroup_names_suffixes] using hxi.symm)
  rw [h1,bytes_eta t,h2]
 have hlt:0<W.heap.size:=by
  have:=World.var?_cell hg0 hv0 0;have h0:=key 0 [] rfl;have hc:W.cell? ⟨0,0,none⟩=some (.string ⟨#[]⟩):=by simpa [h0] using this
  exact Nat.pos_of_ne_zero fun e=>by simp [World.cell?,Array.getElem?_eq_none (by omega:W.heap.size≤0)] at hc
 refine ⟨hlt,fun i s hs=>?_⟩;have:=World.var?_cell hg0 hv0 i;rw [this];simpa using key i s hs
end Go.Proofs.YtjdfihglehfelaaGreatDoor
