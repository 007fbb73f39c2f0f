/- Lemmas: PolF, SpT, PolG. -/
import Derived.Test.YtjdfihglehfelaaGreatDoorPk34
import Derived.Test.YtjdfihglehfelaaGreatDoorPk35
set_option maxRecDepth 100000
set_option maxHeartbeats 32000000
set_option linter.all false
namespace Go.Proofs.YtjdfihglehfelaaGreatDoor
open Go.RowKit Go.Maps Go.Shelf
def tK (g:af)(r:aY)(xs:List (List (Int × Int))):Prop:=∀ (i:Nat) (d:az) (x:List (Int × Int)),g.Gb[i]?=some d→xs[i]?=some x→iE x (kI g r d)∧x.length≤300000∧dI x=true
def Dk (g:af)(r:aY)(w:World)(e:Ending)(w':World):Prop:=Below w.heap.size w w' ∧
 ((¬ kP g r=0∧e=.returned (.tuple #[.slice none 0 0,.int .i64 (kP g r)])) ∨
  (kP g r=0∧∃ v xs,e=.returned (.tuple #[v,.int .i64 0])∧fH w' w.heap.size v xs∧xs.length=g.Gb.length∧tK g r xs))
theorem tK.snoc {g:af}{r:aY}{xs:List (List (Int × Int))}{d:az}{x:List (Int × Int)}(h:tK g r xs)(hd:g.Gb[xs.length]?=some d)(h1:iE x (kI g r d))(h2:x.length≤300000)(h3:dI x=true):tK g r (xs++[x]):=by
 intro i d' y hd' hy
 by_cases hi:i<xs.length
 ·rw [List.getElem?_append_left hi] at hy
  exact h i d' y hd' hy
 ·have hl:=(List.getElem?_eq_some_iff.1 hy).1
  rw [List.length_append,List.length_singleton] at hl;obtain rfl:i=xs.length:=by omega
  rw [hd] at hd';obtain rfl:=Option.some.inj hd';obtain rfl:x=y:=by simpa using hy
  exact ⟨h1,h2,h3⟩
theorem zo {g:af}{r:aY}{d:az}(h:nD g r d=false):iE [] (kI g r d):=⟨yP,fun n=>⟨fun q=>absurd q (jd n),fun q=>by rw [q.1] at h;cases h⟩⟩
theorem tq {g:af}{r:aY}{d:az}{x:List (Int × Int)}(h:nD g r d=true)(hn:uM r=false)(hx:iE x (xy g d)):iE x (kI g r d):=hx.congr fun n=>by
 unfold kI;rw [h,hn];simp
theorem yE {g:af}{r:aY}{d:az}{x y:List (Int × Int)}(h:nD g r d=true)(hn:uM r=true)(hx:iE x (xy g d))(hy:iE y (Mem (mQ (jE g r.near) d.name x))):iE y (kI g r d):=hy.congr fun n=>by
 unfold kI;rw [h,hn,if_pos rfl];refine ⟨fun q=>⟨rfl,x,hx,q⟩,fun ⟨_,z,hz,q⟩=>?_⟩
 rwa [hx.eq hz fun _=>Iff.rfl]
theorem tQ {g:af}(h:∀ d∈g.Gb,d.tags.length≤8)(l:List ByteArray):(kR g l).length≤l.length*8:=lY _ _ _ fun nm _=>by
 cases hf:bH g.Gb nm with
 | none=>simp [gT]
 | some d=>exact h d (List.mem_of_find?_eq_some hf)
theorem yO (g:af){l:List ByteArray}{k:Nat}{x:ByteArray}(h:l[k]?=some x):kR g (l.take (k+1))=kR g (l.take k)++((bH g.Gb x).getD gT).tags:=by
 rw [take_snoc' l k x h];simp [kR]
theorem AA (g:af)(r:aY):(gF g r).length≤g.Gb.length:=by
 unfold gF;split
 ·simp
 ·exact lq _ _ _
theorem E9.st {g:af}(h:E9 g):∀ v∈g.F9,∀ s∈v.Gf,fP s→∀ a∈s.Ga,0≤a.start∧a.start≤1000000:=fun v hv s hs ho a ha=>by
 have:=h.ps (aJ v.name s a) (List.mem_flatMap.2 ⟨v,hv,List.mem_flatMap.2 ⟨s,hs,by unfold aK;rw [if_pos ho];exact List.mem_map.2 ⟨a,ha,rfl⟩⟩⟩);simp only [aJ] at this;omega
theorem jk {ok:Nat→Prop}(g:af)(a:bN)(r:aY)(w:World)(hg:dN ok w g a)(hi:GIn g)(hr:dK r)(hS:Sfx w) :
  Calls Tryz.prog 22 #[.agg #[.string g.name,.int .u64 g.id,.int .i64 g.seq,.int .i64 g.Gd,.int .i64 g.next,.slice a.tp g.tags.length a.tc,.slice a.dp g.Gb.length a.dc,.slice a.vp g.F9.length a.vc,.slice a.hp g.history.length a.hc],.agg #[.int .i64 r.Gi,.int .i64 r.Gh,.int .i64 r.Gc,.int .i64 r.Gg,.string r.tag,.string r.near,.string r.sep]] w (Dk g r w):=by
 have HG:=aa hg;clear hg;have HI:=aa hi;clear hi;have HSF:=aa hS;clear hS;have HRQ:=aa hr;clear hr;have hA1:=ae w (.cells #[.string g.name,.int .u64 g.id,.int .i64 g.seq,.int .i64 g.Gd,.int .i64 g.next,.slice a.tp g.tags.length a.tc,.slice a.dp g.Gb.length a.dc,.slice a.vp g.F9.length a.vc,.slice a.hp g.history.length a.hc] 31);have hA2:=ae (w.alloc (.cells #[.string g.name,.int .u64 g.id,.int .i64 g.seq,.int .i64 g.Gd,.int .i64 g.next,.slice a.tp g.tags.length a.tc,.slice a.dp g.Gb.length a.dc,.slice a.vp g.F9.length a.vc,.slice a.hp g.history.length a.hc] 31)) (.cells #[.int .i64 r.Gi,.int .i64 r.Gh,.int .i64 r.Gc,.int .i64 r.Gg,.string r.tag,.string r.near,.string r.sep] 35);have hN1:=heap_alloc_new w (.cells #[.string g.name,.int .u64 g.id,.int .i64 g.seq,.int .i64 g.Gd,.int .i64 g.next,.slice a.tp g.tags.length a.tc,.slice a.dp g.Gb.length a.dc,.slice a.vp g.F9.length a.vc,.slice a.hp g.history.length a.hc] 31);have hN2:=heap_alloc_new (w.alloc (.cells #[.string g.name,.int .u64 g.id,.int .i64 g.seq,.int .i64 g.Gd,.int .i64 g.next,.slice a.tp g.tags.length a.tc,.slice a.dp g.Gb.length a.dc,.slice a.vp g.F9.length a.vc,.slice a.hp g.history.length a.hc] 31)) (.cells #[.int .i64 r.Gi,.int .i64 r.Gh,.int .i64 r.Gc,.int .i64 r.Gg,.string r.tag,.string r.near,.string r.sep] 35);rw [World.size_alloc] at hN2;have HAT:Hid (jF ((w.alloc (.cells #[.string g.name,.int .u64 g.id,.int .i64 g.seq,.int .i64 g.Gd,.int .i64 g.next,.slice a.tp g.tags.length a.tc,.slice a.dp g.Gb.length a.dc,.slice a.vp g.F9.length a.vc,.slice a.hp g.history.length a.hc] 31)).alloc (.cells #[.int .i64 r.Gi,.int .i64 r.Gh,.int .i64 r.Gc,.int .i64 r.Gg,.string r.tag,.string r.near,.string r.sep] 35)) w.heap.size (w.heap.size+1) g a r):=aa ⟨(hA2.block _ (lt_of_block hN1)).trans hN1,hN2⟩;have HB1:=aa (hA1.trans (hA2.mono hA1.size));clear hA1 hA2 hN1 hN2;go_enter Tryz.func22,Tryz.ntmps22
 go_upto_region 1 with (fail)
 generalize hW1:World.alloc (World.alloc w _) _=W1 at *;generalize hBr:w.heap.size+1=Br at *;generalize hBgE:w.heap.size=Bg at *;have HB1':Hid (Below w.heap.size w W1):=aa (by rw [hBgE];exact HB1.out);clear hW1 HB1;have gL:=HAT.out.gc;have g0:=gL 0 _ rfl;have g1:=gL 1 _ rfl;have g2:=gL 2 _ rfl;have g3:=gL 3 _ rfl;have g4:=gL 4 _ rfl;have g5:=gL 5 _ rfl;have g6:=gL 6 _ rfl;have g7:=gL 7 _ rfl;have g8:=gL 8 _ rfl;have rL:=HAT.out.rc;have r0:=rL 0 _ rfl;have r1:=rL 1 _ rfl;have r2:=rL 2 _ rfl;have r3:=rL 3 _ rfl;have r4:=rL 4 _ rfl;have r5:=rL 5 _ rfl;have r6:=rL 6 _ rfl;clear gL rL;have HPC:=aa (yQ (ok:=ok) g a r W1 (HG.out.mv (Mv.of HB1'.out)) HI.out HRQ.out (HSF.out.below HB1'.out))
 go_wp2_with fail
 clear g0 g1 g2 g3 g4 g5 g6 g7 g8 r0 r1 r2 r3 r4 r5 r6;refine HPC.out.mono ?_;clear HPC;rintro e w2 ⟨rfl,hb2⟩;have HB2:=aa (HB1'.out.trans (hb2.mono HB1'.out.size));have HAT2:=aa (HAT.out.below hb2);clear hb2 HB1' HAT
 by_cases hp:kP g r=0
 ·have hxb:(kP g r != 0)=false:=by simpa using hp
  have HP:=aa hp;clear hp;have HFT:=aa (Fb HI.out (D6 HP.out).1);have hnear:=HRQ.out.n;have rL:=HAT2.out.rc;have r0:=rL 0 _ rfl;have r1:=rL 1 _ rfl;have r2:=rL 2 _ rfl;have r3:=rL 3 _ rfl;have r4:=rL 4 _ rfl;have r5:=rL 5 _ rfl;have r6:=rL 6 _ rfl;clear rL;have hA:=ae w2 (.cells #[.int .i64 r.Gi,.int .i64 r.Gh,.int .i64 r.Gc,.int .i64 r.Gg,.string r.tag,.string r.near,.string r.sep,.slice none 0 0,.slice none 0 0] 99);have HBj:=aa (heap_alloc_new w2 (.cells #[.int .i64 r.Gi,.int .i64 r.Gh,.int .i64 r.Gc,.int .i64 r.Gg,.string r.tag,.string r.near,.string r.sep,.slice none 0 0,.slice none 0 0] 99));have HB3:=aa (HB2.out.trans (hA.mono HB2.out.size));have HAT3:=aa (HAT2.out.below hA);clear hA HAT2
  go_upto_region 5 with (fail)
  clear r0 r1 r2 r3 r4 r5 r6 hxb;generalize hW3:World.alloc w2 _=W3 at *;generalize hBj:w2.heap.size=Bj at *;clear hW3;have hwj:w.heap.size≤Bj:=by rw [← hBj];exact HB2.out.size
  clear hBj HB2;have r5:=HAT3.out.rc 5 _ rfl;have hbj3:=lt_of_block HBj.out;have hne1:Bg≠Bj:=fun e=>by have:=HAT3.out.g;rw [e,HBj.out] at this;injection this with this;injection this with _ this _;cases this
  have hne2:Br≠Bj:=fun e=>by have:=HAT3.out.r;rw [e,HBj.out] at this;injection this with this;injection this with _ this _;cases this
  have HNL:Hid (gF g r=if r.near.toList.isEmpty then [] else sP g r.near):=aa rfl;have hnl8:(gF g r).length≤8:=Nat.le_trans (AA g r) HFT.out.dl
  go_upto_if 28 with (fail)
  go_cut [7] (fun v wc=>v=.pointer (some ⟨Bj,0,none⟩)∧∃ (np:Option Addr) (nc:Nat),wc.heap[Bj]?=some (.cells #[.int .i64 r.Gi,.int .i64 r.Gh,.int .i64 r.Gc,.int .i64 r.Gg,.string r.tag,.string r.near,.string r.sep,.slice np (gF g r).length nc,.slice none 0 0] 99 (0,0))∧RdS aF 1 (fun b=>b≠Bj) wc [.slice np (gF g r).length nc] (gF g r)∧Mod (fun b=>b=Bj) W3 wc)
  case first =>
   cases hne:r.near.toList.isEmpty with
   | true =>
    rw [hne,if_pos rfl] at HNL;go_wp2;go_meet;exact ⟨rfl,none,0,by rw [HNL.out];exact HBj.out,by rw [HNL.out];exact RdS.nil,Mod.refl _ _⟩
   | false =>
    rw [hne,if_neg (by simp)] at HNL;have gL:=HAT3.out.gc;have g0:=gL 0 _ rfl;have g1:=gL 1 _ rfl;have g2:=gL 2 _ rfl;have g3:=gL 3 _ rfl;have g4:=gL 4 _ rfl;have g5:=gL 5 _ rfl;have g6:=gL 6 _ rfl;have g7:=gL 7 _ rfl;have g8:=gL 8 _ rfl;clear gL;have HND:=aa (Cf (ok:=ok) g a r.near W3 ((HG.out.mv (Mv.of HB3.out)).F9) ((HG.out.mv (Mv.of HB3.out)).Gb) HFT.out.nd (by unfold maxLen;exact hnear))
    go_wp2_with fail
    clear g0 g1 g2 g3 g4 g5 g6 g7 g8;refine HND.out.mono ?_;clear HND;rintro e w4 ⟨nv,rfl,how,hb4⟩
    have hrd:RdS aF 1 (fun b=>b≠Bj) w4 [nv] (sP g r.near):=how.rd fun b e=>by
     have:=(World.ownsRow.lt how b e).1;show b≠Bj;omega
    have hbj4:=(hb4.block Bj hbj3).trans HBj.out;obtain ⟨np,nc,rfl,hnc1,hnc2⟩:=hrd.cap;have HRD:=aa hrd;clear hrd how;have HB4:=aa hb4;clear hb4;have HBJ4:=aa hbj4;clear hbj4;have jf:w4.frozen? ⟨Bj,7,none⟩=false:=by simp [World.frozen?,HBJ4.out]
    have j7:w4.cell? ⟨Bj,7,none⟩=some (.slice none 0 0):=by simp [World.cell?,HBJ4.out]
    go_wp2;go_meet;have hbs:=block_setCell (i:=7) (.slice np (sP g r.near).length nc) HBJ4.out;refine ⟨rfl,np,nc,by rw [HNL.out];exact hbs,by rw [HNL.out];exact (RdS.moves aF.moves).mv ⟨by simp [World.setCell],fun b hb ho=>⟨ho,Below.heap_setCell _ _ _ _ ho⟩⟩ HRD.out,Mod.setCell (F:=fun b=>b=Bj) (p:=⟨Bj,7,none⟩) (Mod.of_below HB4.out) (.inl rfl) _⟩
  case rest =>
   obtain ⟨rfl,np,nc,hbj,hnr,hmd⟩:=hcut;have HBC:Hid (Below w.heap.size w wc):=aa (HB3.out.trans (hmd.below HB3.out.size (fun b e=>by omega)));have HATC:Hid (jF wc Bg Br g a r):=aa ⟨(hmd.block _ (lt_of_block HAT3.out.g) hne1).trans HAT3.out.g,(hmd.block _ (lt_of_block HAT3.out.r) hne2).trans HAT3.out.r⟩;have HBJ:=aa hbj;clear hbj;have HNR:=aa hnr;clear hnr;have hbjc:=lt_of_block HBJ.out;clear hmd HB3 HBj HAT3 r5 hbj3 HNL;generalize hnl:gF g r=nl at *;have HNLE:=aa hnl;clear hnl;have j7:wc.cell? ⟨Bj,7,none⟩=some (.slice np nl.length nc):=by simp [World.cell?,HBJ.out]
   go_upto_region 8 with (fail)
   clear j7;have hgd:=HATC.out.g;have hszc:=HBC.out.size
   go_loopw [37] (fun i wr=>∃ k:Nat,k≤nl.length∧i=.int .i64 k∧Mod (fun b=>b=Bj) wc wr∧∃ jv,dF wr wc.heap.size jv (kR g (nl.take k))∧wr.heap[Bj]?=some (.cells #[.int .i64 r.Gi,.int .i64 r.Gh,.int .i64 r.Gc,.int .i64 r.Gg,.string r.tag,.string r.near,.string r.sep,.slice np nl.length nc,jv] 99 (0,0))) (fun i _=>nl.length - (intOf i).toNat)
   case atStart=>exact ⟨0,Nat.zero_le _,rfl,Mod.refl _ _,.slice none 0 0,dF.nil _ _,HBJ.out⟩
   case round =>
    obtain ⟨k,hk,rfl,hmd,jv,hown,hbj⟩:=hrel;have HMD:=aa hmd;clear hmd;have HOW:=aa hown;clear hown;have HBJR:=aa hbj;clear hbj;have HBR:Hid (Below w.heap.size w wr):=aa (HBC.out.trans (HMD.out.below hszc (fun b e=>by omega)));have HATR:Hid (jF wr Bg Br g a r):=aa ⟨(HMD.out.block _ (lt_of_block HATC.out.g) hne1).trans HATC.out.g,(HMD.out.block _ (lt_of_block HATC.out.r) hne2).trans HATC.out.r⟩;have hszr:=HMD.out.size
    by_cases hlt:k<nl.length
    ·obtain ⟨x,hx⟩:=aj nl k hlt
     obtain ⟨b,off,us,rfl,hob,hbw,hul,hvs,hcv⟩:=HNR.out.elem hx;obtain rfl:us=_:=hvs;have q0:=(HMD.out.cell (p:=⟨b,off+k*1+0,none⟩) hbw hob).trans (hcv 0 _ rfl);rw [Nat.mul_one,Nat.add_zero] at q0;have HTS:=aa (yO g hx);have htl:=tQ HFT.out.dt (nl.take k);rw [List.length_take] at htl;clear hx hcv hul;have gL:=HATR.out.gc;have g0:=gL 0 _ rfl;have g1:=gL 1 _ rfl;have g2:=gL 2 _ rfl;have g3:=gL 3 _ rfl;have g4:=gL 4 _ rfl;have g5:=gL 5 _ rfl;have g6:=gL 6 _ rfl;have g7:=gL 7 _ rfl;have g8:=gL 8 _ rfl;clear gL;have HDQ:=aa (nZ (ok:=fun b=>ok b∧b<w.heap.size) g a x wr ((HG.out.mv (ok':=fun b=>ok b∧b<w.heap.size) ⟨HBR.out.size,fun b hb ho=>⟨⟨ho,hb⟩,HBR.out.block b hb⟩⟩).Gb) (by have:=HFT.out.dl;omega) (fun d hd=>by have:=HFT.out.dt d hd;omega))
     go_wp2_with fail
     clear g0 g1 g2 g3 g4 g5 g6 g7 g8 q0;refine HDQ.out.mono ?_;clear HDQ;rintro e w5 ⟨u,rfl,hvd,hb5⟩
     have hdt:((bH g.Gb x).getD gT).tags.length≤8:=by
      cases hf:bH g.Gb x with
      | none=>simp [gT]
      | some d=>exact HFT.out.dt d (List.mem_of_find?_eq_some hf)
     generalize (bH g.Gb x).isSome=isd at *;generalize hd:(bH g.Gb x).getD gT=d at *;clear hd;obtain ⟨tv,rfl,htr⟩:=hvd;obtain ⟨tp,tc,rfl,_,_⟩:=htr.cap;have hA:=ae w5 (.cells #[.string d.name,.int .u64 d.id,.int .i64 d.first,.int .i64 d.Gc,.bool d.closed,.bool d.missing,.slice tp d.tags.length tc] 47);have HBd:=aa (heap_alloc_new w5 (.cells #[.string d.name,.int .u64 d.id,.int .i64 d.first,.int .i64 d.Gc,.bool d.closed,.bool d.missing,.slice tp d.tags.length tc] 47));have hb6:=hb5.trans (hA.mono hb5.size);have HTR:Hid (RdS aF 1 (fun _=>True) (w5.alloc (.cells #[.string d.name,.int .u64 d.id,.int .i64 d.first,.int .i64 d.Gc,.bool d.closed,.bool d.missing,.slice tp d.tags.length tc] 47)) [.slice tp d.tags.length tc] d.tags):=aa ((RdS.moves aF.moves).mv ⟨hA.size,fun b hb _=>⟨trivial,hA.block b hb⟩⟩ htr);have HB6:=aa hb6;have HOW6:=aa (HOW.out.below hb6);have HBJ6:=aa ((hb6.block Bj (lt_of_block HBJR.out)).trans HBJR.out);clear hA hb5 hb6 htr HOW HBJR
     go_upto_region 11 with (fail)
     generalize hW6:World.alloc w5 _=W6 at *;generalize hBd:w5.heap.size=Bd at *;clear hW6;have d6:W6.cell? ⟨Bd,6,none⟩=some (.slice tp d.tags.length tc):=by simp [World.cell?,HBd.out]
     have j8:W6.cell? ⟨Bj,8,none⟩=some jv:=by simp [World.cell?,HBJ6.out]
     have hsz6:=HB6.out.size
     go_wp2_with (at_builtin;refine mW (ok:=fun _=>True) rfl _ _ rfl wc.heap.size jv (kR g (nl.take k)) d.tags rfl ?c1 tp tc rfl ?c2 ?c3 ?c4 ?_)
     all_goals first | (case c1=>exact HOW6.out) | (case c2=>exact HTR.out) | (case c3=>omega) | (case c4=>omega) | skip
     intro v' w7 hown1 hb7 hg7;have hbj7:=(hg7.block Bj (lt_of_block HBJ6.out) (fun e=>HOW6.out.ne HBJ6.out (by decide) e.symm)).trans HBJ6.out;have HBJ7:=aa hbj7;clear hbj7;obtain ⟨pw,cw,rfl,_,_⟩:=(hown1.rd (ok:=fun _=>True) (fun _ _=>trivial)).cap;have HOW7:=aa hown1;clear hown1;have HM7:Hid (Mod (fun b=>b=Bj) wc w7):=aa (HMD.out.trans (Mod.of_below (F:=fun _=>False) HB6.out) (fun _ f=>f.elim) |>.trans (G:=fun b=>wc.heap.size≤b) ⟨hb7.os,hb7.tape,hb7.output,hb7.size,fun b hb hn=>hb7.block b (by omega)⟩ (fun b e=>.inr e));have jf:w7.frozen? ⟨Bj,8,none⟩=false:=by simp [World.frozen?,HBJ7.out]
     have j8':w7.cell? ⟨Bj,8,none⟩=some jv:=by simp [World.cell?,HBJ7.out]
     clear hb7 hg7 d6 j8;go_wp2;go_roundw
     case rel =>
      refine ⟨k+1,by omega,by go_num,HM7.out.setCell (.inl rfl) _,_,?_,block_setCell (i:=8) _ HBJ7.out⟩;rw [HTS.out];have h7:=HOW7.out.blk (w':=w7.setCell ⟨Bj,8,none⟩ (.slice pw ((kR g (nl.take k)).length+d.tags.length) cw)) fun b e=>Below.heap_setCell w7 ⟨Bj,8,none⟩ _ b (fun q=>HOW7.out.ne HBJ7.out (by decide) (e.trans (congrArg some q)));rw [List.length_append] at h7;exact h7
     case measure=>simp [intOf];omega
    ·obtain rfl:k=nl.length:=by omega
     rw [List.take_length] at HOW;have htl:=tQ HFT.out.dt nl;obtain ⟨jp,jc,rfl,_,_⟩:=(HOW.out.rd (ok:=fun _=>True) (fun _ _=>trivial)).cap;have HJR:=aa (HOW.out.rd (ok:=fun _=>True) (fun _ _=>trivial));have HNR2:Hid (RdS aF 1 (fun _=>True) wr [.slice np nl.length nc] nl):=aa ((RdS.moves aF.moves).mv ⟨HMD.out.size,fun b hb ho=>⟨trivial,HMD.out.block b hb ho⟩⟩ HNR.out);generalize hjl:kR g nl=jl at *;have HJL:=aa hjl;clear hjl;clear HOW HMD HNR HBJ HATC;have HCA:Hid (qd (wr.alloc (.cells #[.func (.func 51) #[] #[],.func (.func 52) #[] #[],.func (.func 53) #[] #[],.func (.func 54) #[] #[]] 103)) wr.heap.size):=aa (heap_alloc_new wr _);have hA:=ae wr (.cells #[.func (.func 51) #[] #[],.func (.func 52) #[] #[],.func (.func 53) #[] #[],.func (.func 54) #[] #[]] 103);have HB8:=aa (HBR.out.trans (hA.mono HBR.out.size));have HAT8:=aa (HATR.out.below hA);have HBJ8:=aa ((hA.block Bj (lt_of_block HBJR.out)).trans HBJR.out);have HJR8:=aa (gI aF.moves HJR.out hA);have HNR8:=aa (gI aF.moves HNR2.out hA);clear hA HBR HATR HBJR HJR HNR2
     go_upto_region 15 with (fail)
     generalize hW8:World.alloc wr _=W8 at *;generalize hBc:wr.heap.size=Bc at *;clear hW8;have g6:=HAT8.out.gc 6 _ rfl
     go_upto_region 16 with (fail)
     clear g6;have HDR:Hid (RdS aO 7 (fun b=>b<w.heap.size) W8 [.slice a.dp g.Gb.length a.dc] g.Gb):=aa ((HG.out.mv (ok':=fun b=>b<w.heap.size) ⟨HB8.out.size,fun b hb _=>⟨hb,HB8.out.block b hb⟩⟩).Gb);have HGR:Hid (dN (fun b=>b<w.heap.size) W8 g a):=aa (HG.out.mv (ok':=fun b=>b<w.heap.size) ⟨HB8.out.size,fun b hb _=>⟨hb,HB8.out.block b hb⟩⟩);have hdl:=HFT.out.dl;have hsz8:=HB8.out.size;generalize hdp:a.dp=dpx at *;generalize hdc:a.dc=dcx at *;clear hdp hdc
     go_loopw [13,58] (fun ov i wr=>∃ m:Nat,m≤g.Gb.length∧i=.int .i64 m∧Below W8.heap.size W8 wr∧∃ xs,fH wr W8.heap.size ov xs∧xs.length=m∧tK g r xs) (fun _ i _=>g.Gb.length - (intOf i).toNat)
     case atStart=>exact ⟨0,Nat.zero_le _,rfl,Below.refl _ _,[],fH.nil _ _,rfl,fun i d x _ h=>by cases h⟩
     case round =>
      obtain ⟨m,hm,rfl,hB,xs,hown,hxl,hpx⟩:=hrel;have HB:=aa hB;clear hB;have HOW:=aa hown;clear hown;have HPX:=aa hpx;clear hpx;have hszr:=HB.out.size
      by_cases hlt:m<g.Gb.length
      ·obtain ⟨d,hd⟩:=aj g.Gb m hlt
       obtain ⟨b,off,us,hsp,hob,hbw,hul,hvs,hcv⟩:=HDR.out.elem hd;obtain ⟨tv,rfl,htr⟩:=hvs;obtain ⟨tp,tc,rfl,_,_⟩:=htr.cap;have hbk:wr.heap[b]?=W8.heap[b]?:=HB.out.block b hbw;have hdt:=HFT.out.dt d (List.mem_of_getElem? hd);have HDE:=aa (HFT.out.de d (List.mem_of_getElem? hd));have HDF:=aa (HFT.out.df m d hd);have HD:=aa hd;clear hd;subst hsp;have q0:=bK hbk (hcv 0 _ rfl);have q1:=ai hbk (hcv 1 _ rfl);have q2:=ai hbk (hcv 2 _ rfl);have q3:=ai hbk (hcv 3 _ rfl);have q4:=ai hbk (hcv 4 _ rfl);have q5:=ai hbk (hcv 5 _ rfl);have q6:=ai hbk (hcv 6 _ rfl);clear hcv hul hbk;have hA:=ae wr (.cells #[.string d.name,.int .u64 d.id,.int .i64 d.first,.int .i64 d.Gc,.bool d.closed,.bool d.missing,.slice tp d.tags.length tc] 47);have HBd:=aa (heap_alloc_new wr (.cells #[.string d.name,.int .u64 d.id,.int .i64 d.first,.int .i64 d.Gc,.bool d.closed,.bool d.missing,.slice tp d.tags.length tc] 47));have hb9:=HB.out.trans (hA.mono HB.out.size);have HB9:=aa hb9;have HOW9:=aa (HOW.out.below hA);have HTR:Hid (RdS aF 1 (fun _=>True) (wr.alloc (.cells #[.string d.name,.int .u64 d.id,.int .i64 d.first,.int .i64 d.Gc,.bool d.closed,.bool d.missing,.slice tp d.tags.length tc] 47)) [.slice tp d.tags.length tc] d.tags):=aa ((RdS.moves aF.moves).mv ⟨hb9.size,fun b hb _=>⟨trivial,hb9.block b hb⟩⟩ htr);have HAK:Hid (kF (wr.alloc (.cells #[.string d.name,.int .u64 d.id,.int .i64 d.first,.int .i64 d.Gc,.bool d.closed,.bool d.missing,.slice tp d.tags.length tc] 47)) Bj wr.heap.size r np jp nc jc nl jl d tp tc):=aa ⟨⟨(hb9.block Bj (lt_of_block HBJ8.out)).trans HBJ8.out,HBd.out⟩,gI aF.moves HNR8.out hb9,gI aF.moves HJR8.out hb9,HTR.out⟩;have HCC:=aa (oD HAK.out ((hb9.block Bc (lt_of_block HCA.out)).trans HCA.out) (by omega) (by omega) (by omega));have HPB:Hid (nD g r d=iD nl jl r d):=aa (by unfold nD;rw [HNLE.out,HJL.out]);clear hA hb9 htr HTR HAK HOW HB
       go_upto_region 18 with (fail)
       clear q0 q1 q2 q3 q4 q5 q6;generalize hW9:World.alloc wr _=W9 at *;generalize hBd:wr.heap.size=Bd at *;clear hW9
       go_wp2_with fail
       refine HCC.out.mono ?_;clear HCC;rintro e w10 ⟨rfl,hb10⟩;have HB10:=aa (HB9.out.trans (hb10.mono HB9.out.size));have HOW10:=aa (HOW9.out.below hb10);have HBd10:=aa ((hb10.block _ (lt_of_block HBd.out)).trans HBd.out);have hsz10:=HB10.out.size;clear hb10 HB9 HOW9 HBd;cases hub:iD nl jl r d with
       | false =>
        have HPN:=aa (zo (HPB.out.trans hub));clear hub
        go_wp2_with (at_builtin;refine iA rfl _ _ rfl W8.heap.size _ xs (.slice none 0 0) [] rfl ?c1 ?c2 w10.heap.size 1 rfl ?c3 ?c4 ?c5 ?_)
        all_goals first | (case c1=>exact HOW10.out.below (ae _ _)) | (case c2=>exact bM.nil _ _) | (case c3=>exact aD rfl rfl) | (case c4=>omega) | (case c5=>simp;omega) | skip
        intro v' w11 hown1 hb11 _;have HB11:=aa ((HB10.out.alloc hsz10 _).trans hb11);have HOW11:=aa hown1;clear hown1 hb11;go_wp2;go_roundw
        case rel=>exact ⟨m+1,by omega,by go_num,HB11.out,_,HOW11.out,by simp [hxl],HPX.out.snoc (by rw [hxl];exact HD.out) HPN.out (by simp) rfl⟩
        case measure=>simp [intOf];omega
       | true =>
        have HPT:=aa (HPB.out.trans hub);clear hub;have HAT10:Hid (jF w10 Bg Br g a r):=aa ⟨(HB10.out.block _ (lt_of_block HAT8.out.g)).trans HAT8.out.g,(HB10.out.block _ (lt_of_block HAT8.out.r)).trans HAT8.out.r⟩;have gL:=HAT10.out.gc;have g0:=gL 0 _ rfl;have g1:=gL 1 _ rfl;have g2:=gL 2 _ rfl;have g3:=gL 3 _ rfl;have g4:=gL 4 _ rfl;have g5:=gL 5 _ rfl;have g6:=gL 6 _ rfl;have g7:=gL 7 _ rfl;have g8:=gL 8 _ rfl;clear gL;have d0:w10.cell? ⟨Bd,0,none⟩=some (.string d.name):=by simp [World.cell?,HBd10.out]
        have hgr10:dN (fun b=>b<w.heap.size) w10 g a:=HGR.out.mv ⟨HB10.out.size,fun b hb ho=>⟨ho,HB10.out.block b hb⟩⟩;have HFR:=aa (Di (ok:=fun b=>b<w.heap.size) g.name g.id g.seq g.Gd g.next a.tp a.dp a.vp a.hp g.tags.length a.tc a.dc a.vc g.history.length a.hc g.Gb g.F9 d.name w10 hgr10.Gb (by omega) (fun D hD=>by have:=HFT.out.dt D hD;omega) (fun D hD=>by have:=HFT.out.de D hD;omega) hgr10.F9 (by have:=HFT.out.vl;omega) HFT.out.tm (fun p hp=>by have:=HFT.out.ps p hp;omega) (by have:=HFT.out.pn;omega));clear hgr10
        go_wp2_with fail
        clear g0 g1 g2 g3 g4 g5 g6 g7 g8 d0;refine HFR.out.mono ?_;clear HFR;intro e w11 hf;unfold zR at hf;rw [HDF.out] at hf;obtain ⟨fv,x,rfl,hfo,hfn,hfv,hfl,hb11⟩:=hf;have HFO:=aa (hfo.mono (B':=W8.heap.size) hsz10);clear hfo;have HFN:Hid (iE x (xy g d)):=aa hfn;clear hfn;have HFV:=aa hfv;clear hfv;have hpn:=HFT.out.pn;have hxl3:x.length≤30000:=by omega
        clear hfl hpn;have HB11:=aa (HB10.out.trans (hb11.mono hsz10));have HOW11:=aa (HOW10.out.below hb11);have HAT11:=aa (HAT10.out.below hb11);have HBd11:=aa ((hb11.block _ (lt_of_block HBd10.out)).trans HBd10.out);have hsz11:=HB11.out.size;clear hb11 HB10 HOW10 HAT10 HBd10
        go_upto_region 23 with (fail)
        have rL:=HAT11.out.rc;have r0:=rL 0 _ rfl;have r1:=rL 1 _ rfl;have r2:=rL 2 _ rfl;have r3:=rL 3 _ rfl;have r4:=rL 4 _ rfl;have r5:=rL 5 _ rfl;have r6:=rL 6 _ rfl;clear rL;have HIN:Hid (uM r=(r.Gg == 1&&!r.near.toList.isEmpty)):=aa rfl
        have key:(r.Gg == 1)=false∨((r.Gg == 1)=true∧r.near.toList.isEmpty=true)∨((r.Gg == 1)=true∧r.near.toList.isEmpty=false):=by
         cases (r.Gg == 1) <;> cases r.near.toList.isEmpty <;> simp
        rcases key with h1 | ⟨h1,h2⟩ | ⟨h1,h2⟩
        ·rw [h1] at HIN
         have HPA:=aa (tq HPT.out HIN.out HFN.out);obtain ⟨pf,nf,cf,rfl⟩:=HFO.out.slice
         go_wp2_with (at_builtin;refine iA rfl _ _ rfl W8.heap.size _ xs (.slice pf nf cf) x rfl ?c1 ?c2 w11.heap.size 1 rfl ?c3 ?c4 ?c5 ?_)
         all_goals first | (case c1=>exact HOW11.out.below (ae _ _)) | (case c2=>exact HFO.out.below (ae _ _)) | (case c3=>exact aD rfl rfl) | (case c4=>omega) | (case c5=>simp;omega) | skip
         intro v' w12 hown1 hb12 _;have HB12:=aa ((HB11.out.alloc hsz11 _).trans hb12);have HOW12:=aa hown1;clear hown1 hb12;go_wp2;go_roundw
         case rel=>exact ⟨m+1,by omega,by go_num,HB12.out,_,HOW12.out,by simp [hxl],HPX.out.snoc (by rw [hxl];exact HD.out) HPA.out (by omega) HFV.out⟩
         case measure=>simp [intOf];omega
        ·rw [h1,h2] at HIN
         have HPA:=aa (tq HPT.out HIN.out HFN.out);obtain ⟨pf,nf,cf,rfl⟩:=HFO.out.slice
         go_wp2_with (at_builtin;refine iA rfl _ _ rfl W8.heap.size _ xs (.slice pf nf cf) x rfl ?e1 ?e2 w11.heap.size 1 rfl ?e3 ?e4 ?e5 ?_)
         all_goals first | (case e1=>exact HOW11.out.below (ae _ _)) | (case e2=>exact HFO.out.below (ae _ _)) | (case e3=>exact aD rfl rfl) | (case e4=>omega) | (case e5=>simp;omega) | skip
         intro v' w12 hown1 hb12 _;have HB12:=aa ((HB11.out.alloc hsz11 _).trans hb12);have HOW12:=aa hown1;clear hown1 hb12;go_wp2;go_roundw
         case rel=>exact ⟨m+1,by omega,by go_num,HB12.out,_,HOW12.out,by simp [hxl],HPX.out.snoc (by rw [hxl];exact HD.out) HPA.out (by omega) HFV.out⟩
         case measure=>simp [intOf];omega
        ·rw [h1,h2] at HIN
         have gL:=HAT11.out.gc;have g0:=gL 0 _ rfl;have g1:=gL 1 _ rfl;have g2:=gL 2 _ rfl;have g3:=gL 3 _ rfl;have g4:=gL 4 _ rfl;have g5:=gL 5 _ rfl;have g6:=gL 6 _ rfl;have g7:=gL 7 _ rfl;have g8:=gL 8 _ rfl;clear gL;have d0:w11.cell? ⟨Bd,0,none⟩=some (.string d.name):=by simp [World.cell?,HBd11.out]
         have hxb:∀ p∈x,0≤p.1∧1≤p.2∧p.1+p.2≤1073741824:=fun p hp=>by
          have c:=HFN.out.1.1 p hp;have c1:=((HFN.out.2 p.1).1 ⟨p,hp,by omega,by omega⟩).1;have c2:=((HFN.out.2 (p.1+p.2 - 1)).1 ⟨p,hp,by omega,by omega⟩).1;have:=HDE.out;omega
         have HEL:Hid ((jE g r.near).length≤10):=aa (by
          refine Nat.le_trans (Bu (m:=6) ?_) (by omega);cases hf:aM g.F9 r.near with
          | none=>intro s hs;simp [eY] at hs
          | some v=>exact fun s hs=>HFT.out.a6 v (List.mem_of_find?_eq_some hf) s hs)
         have HBH:=aa (yI (ok:=fun b=>b<w.heap.size) g a r.near d.name x fv w11 ((HGR.out.mv (ok':=fun b=>b<w.heap.size) ⟨HB11.out.size,fun b hb ho=>⟨ho,HB11.out.block b hb⟩⟩).F9) HFT.out.nd.us.sz HFT.out.tm HFT.out.st HFO.out.rd hxb hxl3 HEL.out);clear hxb
         go_wp2_with fail
         clear g0 g1 g2 g3 g4 g5 g6 g7 g8 d0 r0 r1 r2 r3 r4 r5 r6;refine HBH.out.mono ?_;clear HBH;rintro e w12 ⟨yv,y,rfl,hyo,hyn,hyl,hb12⟩;have HYO:=aa (hyo.mono (B':=W8.heap.size) hsz11);clear hyo;have HPA:=aa (yE HPT.out HIN.out HFN.out hyn)
         have HYV:Hid (dI y=true):=aa (jC hyn (xS fun p hp=>by
          have c:=HFN.out.1.1 p hp;have c1:=((HFN.out.2 p.1).1 ⟨p,hp,by omega,by omega⟩).1;have c2:=((HFN.out.2 (p.1+p.2 - 1)).1 ⟨p,hp,by omega,by omega⟩).1;have:=HDE.out
          omega))
         have HB12:=aa (HB11.out.trans (hb12.mono hsz11));have HOW12:=aa (HOW11.out.below hb12);have hsz12:=HB12.out.size;clear hb12 hyn;obtain ⟨pf,nf,cf,rfl⟩:=HYO.out.slice
         go_wp2_with (at_builtin;refine iA rfl _ _ rfl W8.heap.size _ xs (.slice pf nf cf) y rfl ?f1 ?f2 w12.heap.size 1 rfl ?f3 ?f4 ?f5 ?_)
         all_goals first | (case f1=>exact HOW12.out.below (ae _ _)) | (case f2=>exact HYO.out.below (ae _ _)) | (case f3=>exact aD rfl rfl) | (case f4=>omega) | (case f5=>simp;omega) | skip
         intro v' w13 hown1 hb13 _;have HB13:=aa ((HB12.out.alloc hsz12 _).trans hb13);have HOW13:=aa hown1;clear hown1 hb13;go_wp2;go_roundw
         case rel=>exact ⟨m+1,by omega,by go_num,HB13.out,_,HOW13.out,by simp [hxl],HPX.out.snoc (by rw [hxl];exact HD.out) HPA.out (by omega) HYV.out⟩
         case measure=>simp [intOf];omega
      ·obtain rfl:m=g.Gb.length:=by omega
       have HBF:=aa (HB8.out.trans (HB.out.mono hsz8));go_wp2;go_ret2;exact ⟨HBF.out,.inr ⟨HP.out,_,xs,rfl,HOW.out.mono hsz8,hxl,HPX.out⟩⟩
 ·have hxb:(kP g r != 0)=true:=by simpa using hp
  have HP:=aa hp;clear hp;go_wp2;go_ret2;exact ⟨HB2.out,.inl ⟨HP.out,rfl⟩⟩
theorem lZ {w:World}{k:Nat}{o:Obj}(h:k=w.heap.size):(w.alloc o).heap[k]?=some o:=by
 subst h;exact heap_alloc_new w o
def mq (sep t:ByteArray):Bool:=!sep.toList.isEmpty&&Lib.hasPrefix t.data.toList sep.data.toList
def nU (sep:ByteArray)(d:az):ByteArray:=match d.tags.find? (mq sep) with
 | some t=>t
 | none=>d.name++⟨#[32]⟩
def jU (g:af)(r:aY)(k:Int):ByteArray:=if k<0 then ⟨#[]⟩ else match g.Gb[k.toNat]? with
 | none=>⟨#[]⟩
 | some d=>nU r.sep d
def FZ (s:ByteArray)(w:World)(e:Ending)(w':World):Prop:=e=.returned (.string s)∧Below w.heap.size w w'
theorem sj (s p:ByteArray)(w:World):Calls Tryz.prog 98 #[.string s,.string p] w fun e w'=>e=.returned (.bool (Lib.hasPrefix s.data.toList p.data.toList))∧w'=w:=Any.strings_HasPrefix Tryz.lays99 s p w
theorem ug {ok:Nat→Prop}(g:af)(a:bN)(r:aY)(k:Int)(w:World)(hr:RdS aO 7 ok w [.slice a.dp g.Gb.length a.dc] g.Gb)(hdl:g.Gb.length≤1000000)(htl:∀ d∈g.Gb,d.tags.length≤1000000∧d.name.size≤1000000)(hk:-9223372036854775808≤k∧k≤9223372036854775807) :
  Calls Tryz.prog 48 #[.agg #[.string g.name,.int .u64 g.id,.int .i64 g.seq,.int .i64 g.Gd,.int .i64 g.next,.slice a.tp g.tags.length a.tc,.slice a.dp g.Gb.length a.dc,.slice a.vp g.F9.length a.vc,.slice a.hp g.history.length a.hc],.agg #[.int .i64 r.Gi,.int .i64 r.Gh,.int .i64 r.Gc,.int .i64 r.Gg,.string r.tag,.string r.near,.string r.sep],.int .i64 k] w (FZ (jU g r k) w):=by
 have HG:=aa hr;clear hr;have HTL:=aa htl;clear htl;have hA1:=ae w (.cells #[.string g.name,.int .u64 g.id,.int .i64 g.seq,.int .i64 g.Gd,.int .i64 g.next,.slice a.tp g.tags.length a.tc,.slice a.dp g.Gb.length a.dc,.slice a.vp g.F9.length a.vc,.slice a.hp g.history.length a.hc] 31);have hA2:=ae (w.alloc (.cells #[.string g.name,.int .u64 g.id,.int .i64 g.seq,.int .i64 g.Gd,.int .i64 g.next,.slice a.tp g.tags.length a.tc,.slice a.dp g.Gb.length a.dc,.slice a.vp g.F9.length a.vc,.slice a.hp g.history.length a.hc] 31)) (.cells #[.int .i64 r.Gi,.int .i64 r.Gh,.int .i64 r.Gc,.int .i64 r.Gg,.string r.tag,.string r.near,.string r.sep] 35);have hN1:=heap_alloc_new w (.cells #[.string g.name,.int .u64 g.id,.int .i64 g.seq,.int .i64 g.Gd,.int .i64 g.next,.slice a.tp g.tags.length a.tc,.slice a.dp g.Gb.length a.dc,.slice a.vp g.F9.length a.vc,.slice a.hp g.history.length a.hc] 31);have hN2:=heap_alloc_new (w.alloc (.cells #[.string g.name,.int .u64 g.id,.int .i64 g.seq,.int .i64 g.Gd,.int .i64 g.next,.slice a.tp g.tags.length a.tc,.slice a.dp g.Gb.length a.dc,.slice a.vp g.F9.length a.vc,.slice a.hp g.history.length a.hc] 31)) (.cells #[.int .i64 r.Gi,.int .i64 r.Gh,.int .i64 r.Gc,.int .i64 r.Gg,.string r.tag,.string r.near,.string r.sep] 35);rw [World.size_alloc] at hN2;have HAT:Hid (jF ((w.alloc (.cells #[.string g.name,.int .u64 g.id,.int .i64 g.seq,.int .i64 g.Gd,.int .i64 g.next,.slice a.tp g.tags.length a.tc,.slice a.dp g.Gb.length a.dc,.slice a.vp g.F9.length a.vc,.slice a.hp g.history.length a.hc] 31)).alloc (.cells #[.int .i64 r.Gi,.int .i64 r.Gh,.int .i64 r.Gc,.int .i64 r.Gg,.string r.tag,.string r.near,.string r.sep] 35)) w.heap.size (w.heap.size+1) g a r):=aa ⟨(hA2.block _ (lt_of_block hN1)).trans hN1,hN2⟩;have HB1:=aa (hA1.trans (hA2.mono hA1.size));clear hA1 hA2 hN1 hN2;go_enter Tryz.func48,Tryz.ntmps48
 go_upto_region 1 with (fail)
 generalize hW1:World.alloc (World.alloc w _) _=W1 at *;generalize hBr:w.heap.size+1=Br at *;generalize hBgE:w.heap.size=Bg at *;have HB1':Hid (Below w.heap.size w W1):=aa (by rw [hBgE];exact HB1.out);clear hW1 HB1;have g6:=HAT.out.gc 6 _ rfl;have r6:=HAT.out.rc 6 _ rfl
 by_cases h0:k<0
 ·have HR:Hid (jU g r k=⟨#[]⟩):=aa (by unfold jU;rw [if_pos h0])
  go_wp2;go_ret;exact ⟨by rw [HR.out];rfl,HB1'.out⟩
 ·obtain ⟨j,rfl⟩:=Int.eq_ofNat_of_zero_le (by omega:0≤k)
  by_cases hlt:j<g.Gb.length
  ·obtain ⟨d,hd⟩:=aj g.Gb j hlt
   have HR:Hid (jU g r j=nU r.sep d):=aa (by unfold jU;rw [if_neg h0,Int.toNat_natCast,hd]);have htz:=HTL.out d (List.mem_of_getElem? hd);obtain ⟨b,off,us,hsp,hob,hbw,hul,hvs,hcv⟩:=HG.out.elem hd;obtain ⟨tv,rfl,htr⟩:=hvs;obtain ⟨tp,tc,rfl,_,_⟩:=htr.cap;rw [hsp] at g6;have hbk:=HB1'.out.block b hbw;have q0:=bK hbk (hcv 0 _ rfl);have q1:=ai hbk (hcv 1 _ rfl);have q2:=ai hbk (hcv 2 _ rfl);have q3:=ai hbk (hcv 3 _ rfl);have q4:=ai hbk (hcv 4 _ rfl);have q5:=ai hbk (hcv 5 _ rfl);have q6:=ai hbk (hcv 6 _ rfl);clear hcv hul hbk hd hsp;have hA:=ae W1 (.cells #[.string d.name,.int .u64 d.id,.int .i64 d.first,.int .i64 d.Gc,.bool d.closed,.bool d.missing,.slice tp d.tags.length tc] 47);have HBd:=aa (heap_alloc_new W1 (.cells #[.string d.name,.int .u64 d.id,.int .i64 d.first,.int .i64 d.Gc,.bool d.closed,.bool d.missing,.slice tp d.tags.length tc] 47));have HB2:=aa (HB1'.out.trans (hA.mono HB1'.out.size));have r6':=(HAT.out.below hA).rc 6 _ rfl;have HTR:=aa ((RdS.moves aF.moves).mv (ok':=fun b=>ok b) ⟨HB2.out.size,fun b hb ho=>⟨ho,HB2.out.block b hb⟩⟩ htr);clear hA htr r6
   go_upto_region 4 with (fail)
   clear q0 q1 q2 q3 q4 q5 q6 g6;generalize hW2:World.alloc W1 _=W2 at *;generalize hBd:W1.heap.size=Bd at *;clear hW2;have d6:W2.cell? ⟨Bd,6,none⟩=some (.slice tp d.tags.length tc):=by simp [World.cell?,HBd.out]
   have d0:W2.cell? ⟨Bd,0,none⟩=some (.string d.name):=by simp [World.cell?,HBd.out]
   go_upto_region 5 with (fail)
   clear d6;have htl1:=htz.1;have hnz:=htz.2;clear htz
   go_loop [27] (fun i=>∃ m:Nat,m≤d.tags.length∧i=.int .i64 m∧(d.tags.take m).find? (mq r.sep)=none) (fun i=>d.tags.length - (intOf i).toNat)
   case atStart=>exact ⟨0,Nat.zero_le _,rfl,rfl⟩
   case round =>
    obtain ⟨m,hm,rfl,hfn⟩:=hrel;have HFN:=aa hfn;clear hfn
    by_cases hlt2:m<d.tags.length
    ·obtain ⟨t,ht⟩:=aj d.tags m hlt2
     obtain ⟨b3,off3,us3,hsp3,hob3,hbw3,hul3,hvs3,hcv3⟩:=HTR.out.elem ht;obtain rfl:us3=_:=hvs3;subst hsp3;have q0:=hcv3 0 _ rfl;rw [Nat.mul_one,Nat.add_zero] at q0
     have HF1:Hid (mq r.sep t=true→nU r.sep d=t):=aa fun hb=>by
      have:d.tags.find? (mq r.sep)=some t:=by
       rw [← List.take_append_drop m d.tags,List.find?_append,HFN.out,drop_at ht];simp [hb]
      unfold nU;rw [this]
     have HF2:Hid (mq r.sep t=false→(d.tags.take (m+1)).find? (mq r.sep)=none):=aa fun hb=>by
      rw [take_snoc' d.tags m t ht,List.find?_append,HFN.out];simp [hb]
     have HCB:Hid (mq r.sep t=(!r.sep.toList.isEmpty&&Lib.hasPrefix t.data.toList r.sep.data.toList)):=aa rfl;clear ht hcv3 hul3;have HHP:=aa (sj t r.sep W2);cases hse:r.sep.toList.isEmpty with
     | true =>
      rw [hse] at HCB;have HR2:=aa (HF2.out HCB.out);go_wp2;go_round
      case rel=>exact ⟨m+1,by omega,by go_num,HR2.out⟩
      case measure=>simp [intOf];omega
     | false =>
      rw [hse] at HCB;cases hhp:Lib.hasPrefix t.data.toList r.sep.data.toList with
      | true =>
       rw [hhp] at HCB HHP;have HR2:=aa (HF1.out HCB.out);clear hhp
       go_wp2_with (refine HHP.out.mono ?_;rintro e w5 ⟨rfl,rfl⟩)
       go_ret;exact ⟨by rw [HR.out,HR2.out];rfl,HB2.out⟩
      | false =>
       rw [hhp] at HCB HHP;have HR2:=aa (HF2.out HCB.out);clear hhp
       go_wp2_with (refine HHP.out.mono ?_;rintro e w5 ⟨rfl,rfl⟩)
       go_round
       case rel=>exact ⟨m+1,by omega,by go_num,HR2.out⟩
       case measure=>simp [intOf];omega
    ·obtain rfl:m=d.tags.length:=by omega
     rw [List.take_length] at HFN;have HR2:Hid (nU r.sep d=d.name++⟨#[32]⟩):=aa (by unfold nU;rw [HFN.out]);have hsum:¬ (9223372036854775807<d.name.size+1):=by omega
     go_wp2;go_ret;exact ⟨by rw [HR.out,HR2.out];rfl,HB2.out⟩
  ·have HR:Hid (jU g r j=⟨#[]⟩):=aa (by unfold jU;rw [if_neg h0,Int.toNat_natCast,List.getElem?_eq_none (by omega)])
   go_wp2;go_ret;exact ⟨by rw [HR.out];rfl,HB1'.out⟩
end Go.Proofs.YtjdfihglehfelaaGreatDoor
