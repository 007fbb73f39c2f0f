/- Lemmas: PolF, SpN, PolG. -/
import Derived.Test.YtjdfihglehfelaaGreatDoorQm26
set_option maxRecDepth 100000
set_option maxHeartbeats 32000000
set_option linter.all false
namespace Go.Proofs.YtjdfihglehfelaaGreatDoor
open Go.Proofs.Tryz
open Go.RowKit Go.Maps Go.Shelf
variable {g:af}{r:aY}{d:az}{x:List (Int × Int)}
def tK (g:af)(r:aY)(xs:List (List (Int × Int))):Prop:=∀ (i:Nat) (d:az) (x:List (Int × Int)),g.Gb[i]?=some d->xs[i]?=some x->iE x (kI g r d)/\x.length<=300000/\dI x=true
def Dk (g:af)(r:aY)(w:World)(e:Ending)(w':World):Prop:=Below w.heap.size w w' /\
 ((¬ kP g r=0/\e=.returned (.tuple #[.slice none 0 0,.int .i64 (kP g r)])) \/
  (kP g r=0/\∃ v xs,e=.returned (.tuple #[v,.int .i64 0])/\fH w' w.heap.size v xs/\xs.length=g.Gb.length/\tK g r xs))
theorem tK.snoc {xs:List (List (Int × Int))}(h:tK g r xs)(hd:g.Gb[xs.length]?=some d)(h1:iE x (kI g r d))(h2:x.length<=300000)(h3:dI x=true):tK g r (xs++[x]):=by
 intro i d' y hd' hy
 by_cases hi:i<xs.length
 ·rw [Fo hi] at hy
  exact h i d' y hd' hy
 ·have hl:=(List.getElem?_eq_some_iff.1 hy).1
  rw [cD,A4] at hl;obtain rfl:i=xs.length:=by omega
  rw [hd] at hd';obtain rfl:=gj hd';obtain rfl:x=y:=by simpa using hy
  exact ⟨h1,h2,h3⟩
theorem zo (h:nD g r d=false):iE [] (kI g r d):=⟨yP,fun n=>⟨fun q=>absurd q (jd n),fun q=>by rw [q.1] at h;cases h⟩⟩
theorem tq (h:nD g r d=true)(hn:uM r=false)(hx:iE x (xy g d)):iE x (kI g r d):=hx.congr fun n=>by
 unfold kI;rw [h,hn];simp
theorem yE {y:List (Int × Int)}(h:nD g r d=true)(hn:uM r=true)(hx:iE x (xy g d))(hy:iE y (Mem (mQ (jE g r.near) d.name x))):iE y (kI g r d):=hy.congr fun n=>by
 unfold kI;rw [h,hn,aw rfl];refine ⟨fun q=>⟨rfl,x,hx,q⟩,fun ⟨_,z,hz,q⟩=>?_⟩
 rwa [hx.eq hz fun _=>Iff.rfl]
theorem tQ (h:∀ d∈g.Gb,d.tags.length<=8)(l:List ByteArray):(kR g l).length<=l.length*8:=lY _ _ _ fun nm _=>by
 cases hf:bH g.Gb nm with
 | none=>simp [gT]
 | some d=>exact h d (eV hf)
theorem yO (g:af){l:List ByteArray}{k:Nat}{x:ByteArray}(h:l[k]?=some x):kR g (l.take (k+1))=kR g (l.take k)++((bH g.Gb x).getD gT).tags:=by
 rw [take_snoc' l k x h];simp [kR]
theorem AA (g:af)(r:aY):(gF g r).length<=g.Gb.length:=by
 unfold gF;split
 ·simp
 ·exact lq _ _ _
theorem E9.st (h:E9 g):∀ v∈g.F9,∀ s∈v.Gf,fP s->∀ a∈s.Ga,0<=a.start/\a.start<=1000000:=fun v hv s hs ho a ha=>by
 have:=h.ps (aJ v.name s a) (List.mem_flatMap.2 ⟨v,hv,List.mem_flatMap.2 ⟨s,hs,by unfold aK;rw [aw ho];exact List.mem_map.2 ⟨a,ha,rfl⟩⟩⟩);simp only [aJ] at this;omega
theorem Tde {p:Prop}(h:p:=by rw [vh];exact HD.o):p:=h
theorem jk {ok:Nat->Prop}(g:af)(a:bN)(r:aY)(w:World)(hg:dN ok w g a)(hi:NL g)(hr:dK r)(hS:AW w) :
  Calls prog 22 #[.agg (Tae g a),.agg (Taj r)] w (Dk g r w):=by
 have HG:=aa hg;clear hg;have HI:=aa hi;clear hi;have MD:=aa hS;clear hS;have SA:=aa hr;clear hr;have hA1:=ae w (.cells (Tae g a) 31);have hA2:=ae (w.alloc (.cells (Tae g a) 31)) (.cells (Taj r) 35);have hN1:=b9 w (.cells (Tae g a) 31);have hN2:=b9 (w.alloc (.cells (Tae g a) 31)) (.cells (Taj r) 35);rw [cW] at hN2;have Fm:Hid (jF ((w.alloc (.cells (Tae g a) 31)).alloc (.cells (Taj r) 35)) w.heap.size (w.heap.size+1) g a r):=aa ⟨(hA2.block _ (aq hN1)).trans hN1,hN2⟩;have cU:=aa (hA1.trans (hA2.mono hA1.size));clear hA1 hA2 hN1 hN2;go_enter func22,ntmps22
 go_upto_region 1 with (fail)
 generalize hW1:World.alloc (World.alloc w _) _=W1 at *;generalize Rz:w.heap.size+1=Br at *;generalize LY:w.heap.size=Bg at *;have pd:Hid (Below w.heap.size w W1):=aa (by rw [LY];exact cU.o);clear hW1 cU;have gL:=Fm.o.gc;obtain ⟨g0,g1,g2,g3,g4,g5,g6,g7,g8⟩:=xr gL;have rL:=Fm.o.rc;obtain ⟨r0,r1,r2,r3,r4,r5,r6⟩:=se rL;clear gL rL;have SB:=aa (yQ (ok:=ok) g a r W1 (HG.o.mv (Mv.of pd.o)) HI.o SA.o (MD.o.below pd.o))
 go_wp2_with fail
 clear g0 g1 g2 g3 g4 g5 g6 g7 g8 r0 r1 r2 r3 r4 r5 r6;refine SB.o.mono ?_;clear SB;rintro e w2 ⟨rfl,hb2⟩;have cm:=aa (pd.o.trans (hb2.mono pd.o.size));have TG:=aa (Fm.o.below hb2);clear hb2 pd Fm
 by_cases hp:kP g r=0
 ·have qu:(kP g r != 0)=false:=by simpa using hp
  have HP:=aa hp;clear hp;have DG:=aa (Fb HI.o (D6 HP.o).1);have SC:=SA.o.n;have rL:=TG.o.rc;obtain ⟨r0,r1,r2,r3,r4,r5,r6⟩:=se rL;clear rL;have hA:=ae w2 (.cells #[.int .i64 r.Gi,.int .i64 r.Gh,.int .i64 r.Gc,.int .i64 r.Gg,.string r.tag,.string r.near,.string r.sep,.slice none 0 0,.slice none 0 0] 99);have Qv:=aa (b9 w2 (.cells #[.int .i64 r.Gi,.int .i64 r.Gh,.int .i64 r.Gc,.int .i64 r.Gg,.string r.tag,.string r.near,.string r.sep,.slice none 0 0,.slice none 0 0] 99));have cJ:=aa (cm.o.trans (hA.mono cm.o.size));have C6:=aa (TG.o.below hA);clear hA TG
  go_upto_region 5 with (fail)
  clear r0 r1 r2 r3 r4 r5 r6 qu;generalize hW3:World.alloc w2 _=W3 at *;generalize Y0:w2.heap.size=Bj at *;clear hW3;have hwj:w.heap.size<=Bj:=by rw [<- Y0];exact cm.o.size
  clear Y0 cm;have r5:=C6.o.rc 5 _ rfl;have SD:=aq Qv.o;have hne1:Bg≠Bj:=fun e=>by have:=C6.o.g;rw [e,Qv.o] at this;injection this with this;injection this with _ this _;cases this
  have hne2:Br≠Bj:=fun e=>by have:=C6.o.r;rw [e,Qv.o] at this;injection this with this;injection this with _ this _;cases this
  have Ns:Hid (gF g r=if r.near.toList.isEmpty then [] else sP g r.near):=aa rfl;have ac7:(gF g r).length<=8:=cA (AA g r) DG.o.dl
  go_upto_if 28 with (fail)
  go_cut [7] (fun v wc=>v=.pointer (some Bj)/\∃ (np:Option Addr) (nc:Nat),wc.heap[Bj]?=some (.cells #[.int .i64 r.Gi,.int .i64 r.Gh,.int .i64 r.Gc,.int .i64 r.Gg,.string r.tag,.string r.near,.string r.sep,.slice np (gF g r).length nc,.slice none 0 0] 99 (0,0))/\ck aF 1 (fun b=>b≠Bj) wc [.slice np (gF g r).length nc] (gF g r)/\cR (fun b=>b=Bj) W3 wc)
  case first =>
   cases hne:r.near.toList.isEmpty with
   | true =>
    rw [hne,aw rfl] at Ns;go_wp2;go_meet;exact ⟨rfl,none,0,by rw [Ns.o];exact Qv.o,by rw [Ns.o];exact ck.nil,cR.refl _ _⟩
   | false =>
    rw [hne,bh Tce] at Ns;have gL:=C6.o.gc;obtain ⟨g0,g1,g2,g3,g4,g5,g6,g7,g8⟩:=xr gL;clear gL;have Y1:=aa (Cf (ok:=ok) g a r.near W3 ((HG.o.mv (Mv.of cJ.o)).F9) ((HG.o.mv (Mv.of cJ.o)).Gb) DG.o.nd (by unfold maxLen;exact SC))
    go_wp2_with fail
    clear g0 g1 g2 g3 g4 g5 g6 g7 g8;refine Y1.o.mono ?_;clear Y1;rintro e w4 ⟨nv,rfl,how,hb4⟩
    have kf:ck aF 1 (fun b=>b≠Bj) w4 [nv] (sP g r.near):=how.rd fun b e=>by
     have:=(fh how b e).1;show b≠Bj;omega
    have SE:=(hb4.block Bj SD).trans Qv.o;obtain ⟨np,nc,rfl,ac8,ac9⟩:=kf.cap;have B2:=aa kf;clear kf how;have eI:=aa hb4;clear hb4;have PI:=aa SE;clear SE;have jf:w4.frozen? (Tab Bj 7)=false:=by simp [World.frozen?,PI.o]
    have j7:=cr PI.o 7 _ rfl
    go_wp2;go_meet;have gO:=block_setCell (i:=7) (.slice np (sP g r.near).length nc) PI.o;refine ⟨rfl,np,nc,by rw [Ns.o];exact gO,by rw [Ns.o];exact (ck.moves aF.moves).mv ⟨Tcq,fun b hb ho=>⟨ho,bw _ _ _ _ ho⟩⟩ B2.o,cR.setCell (F:=fun b=>b=Bj) (p:=⟨Bj,7,none⟩) (cR.of_below eI.o) (.inl rfl) _⟩
  case rest =>
   obtain ⟨rfl,np,nc,SF,Y2,Gk⟩:=hcut;have Y3:Hid (Below w.heap.size w wc):=aa (cJ.o.trans (Gk.below cJ.o.size (fun b e=>by omega)));have KT:Hid (jF wc Bg Br g a r):=aa ⟨(Gk.block _ (aq C6.o.g) hne1).trans C6.o.g,(Gk.block _ (aq C6.o.r) hne2).trans C6.o.r⟩;have Uu:=aa SF;clear SF;have WO:=aa Y2;clear Y2;have ad1:=aq Uu.o;clear Gk cJ Qv C6 r5 SD Ns;generalize zr:gF g r=nl at *;have WQ:=aa zr;clear zr;have j7:=cr Uu.o 7 _ rfl
   go_upto_region 8 with (fail)
   clear j7;have hgd:=KT.o.g;have WR:=Y3.o.size
   go_loopw [37] (fun i wr=>∃ k:Nat,k<=nl.length/\i=.int .i64 k/\cR (fun b=>b=Bj) wc wr/\∃ jv,dF wr wc.heap.size jv (kR g (nl.take k))/\wr.heap[Bj]?=some (.cells #[.int .i64 r.Gi,.int .i64 r.Gh,.int .i64 r.Gc,.int .i64 r.Gg,.string r.tag,.string r.near,.string r.sep,.slice np nl.length nc,jv] 99 (0,0))) (fun i _=>nl.length - (intOf i).toNat)
   case atStart=>exact ⟨0,cg _,rfl,cR.refl _ _,.slice none 0 0,dF.nil _ _,Uu.o⟩
   case round =>
    obtain ⟨k,hk,rfl,Gk,jv,hown,SF⟩:=hrel;have sq:=aa Gk;clear Gk;have HOW:=aa hown;clear hown;have KU:=aa SF;clear SF;have K5:Hid (Below w.heap.size w wr):=aa (Y3.o.trans (sq.o.below WR (fun b e=>by omega)));have PJ:Hid (jF wr Bg Br g a r):=aa ⟨(sq.o.block _ (aq KT.o.g) hne1).trans KT.o.g,(sq.o.block _ (aq KT.o.r) hne2).trans KT.o.r⟩;have LZ:=sq.o.size
    by_cases hlt:k<nl.length
    ·obtain ⟨x,hx⟩:=aj nl k hlt
     obtain ⟨b,off,us,rfl,gR,cX,ez,eE,hcv⟩:=WO.o.elem hx;obtain rfl:us=_:=eE;have q0:=(sq.o.cell (p:=⟨b,off+k*1+0,none⟩) cX gR).trans (hcv 0 _ rfl);rw [fp,fg] at q0;have HTS:=aa (yO g hx);have nt:=tQ DG.o.dt (nl.take k);rw [ey] at nt;clear hx hcv ez;have gL:=PJ.o.gc;obtain ⟨g0,g1,g2,g3,g4,g5,g6,g7,g8⟩:=xr gL;clear gL;have Y4:=aa (nZ (ok:=fun b=>ok b/\b<w.heap.size) g a x wr ((HG.o.mv (ok':=fun b=>ok b/\b<w.heap.size) ⟨K5.o.size,fun b hb ho=>⟨⟨ho,hb⟩,K5.o.block b hb⟩⟩).Gb) (by have:=DG.o.dl;omega) (fun d hd=>by have:=DG.o.dt d hd;omega))
     go_wp2_with fail
     clear g0 g1 g2 g3 g4 g5 g6 g7 g8 q0;refine Y4.o.mono ?_;clear Y4;rintro e w5 ⟨u,rfl,Qw,hb5⟩
     have hdt:((bH g.Gb x).getD gT).tags.length<=8:=by
      cases hf:bH g.Gb x with
      | none=>simp [gT]
      | some d=>exact DG.o.dt d (eV hf)
     generalize (bH g.Gb x).isSome=isd at *;generalize hd:(bH g.Gb x).getD gT=d at *;clear hd;obtain ⟨tv,rfl,ew⟩:=Qw;obtain ⟨tp,tc,rfl,_,_⟩:=ew.cap;have hA:=ae w5 (.cells (Tai d tp tc) 47);have sX:=aa (b9 w5 (.cells (Tai d tp tc) 47));have hb6:=hb5.trans (hA.mono hb5.size);have Hx:Hid (ck aF 1 (fun _=>True) (w5.alloc (.cells (Tai d tp tc) 47)) [.slice tp d.tags.length tc] d.tags):=aa ((ck.moves aF.moves).mv ⟨hA.size,fun b hb _=>⟨trivial,hA.block b hb⟩⟩ ew);have qs:=aa hb6;have HOW6:=aa (HOW.o.below hb6);have Nx:=aa ((hb6.block Bj (aq KU.o)).trans KU.o);clear hA hb5 hb6 ew HOW KU
     go_upto_region 11 with (fail)
     generalize hW6:World.alloc w5 _=W6 at *;generalize J6:w5.heap.size=Bd at *;clear hW6;have d6:=cr sX.o 6 _ rfl;have j8:=cr Nx.o 8 _ rfl
     have hsz6:=qs.o.size
     go_wp2_with (at_builtin;refine mW (ok:=fun _=>True) rfl _ _ rfl wc.heap.size jv (kR g (nl.take k)) d.tags rfl ?c1 tp tc rfl ?c2 ?c3 ?c4 ?_)
     all_goals first | (case c1=>exact HOW6.o) | (case c2=>exact Hx.o) | (case c3=>omega) | (case c4=>omega) | skip
     intro v' w7 hown1 hb7 hg7;have SG:=(hg7.block Bj (aq Nx.o) (fun e=>HOW6.o.ne Nx.o Tcg e.symm)).trans Nx.o;have Ny:=aa SG;clear SG;obtain ⟨pw,cw,rfl,_,_⟩:=(hown1.rd (ok:=fun _=>True) (fun _ _=>trivial)).cap;have HOW7:=aa hown1;clear hown1;have Qx:Hid (cR (fun b=>b=Bj) wc w7):=aa (sq.o.trans (cR.of_below (F:=fun _=>False) qs.o) (fun _ f=>f.elim) |>.trans (G:=fun b=>wc.heap.size<=b) ⟨hb7.os,hb7.tape,hb7.output,hb7.size,fun b hb hn=>hb7.block b Tcd⟩ (fun b e=>.inr e));have jf:w7.frozen? (Tab Bj 8)=false:=by simp [World.frozen?,Ny.o]
     have j8':w7.cell? (Tab Bj 8)=some jv:=by simp [World.cell?,Ny.o]
     clear hb7 hg7 d6 j8;go_wp2;go_roundw
     case rel =>
      refine ⟨k+1,Tcd,Tch,Qx.o.setCell (.inl rfl) _,_,?_,block_setCell (i:=8) _ Ny.o⟩;rw [HTS.o];have h7:=HOW7.o.blk (w':=w7.setCell (Tab Bj 8) (.slice pw ((kR g (nl.take k)).length+d.tags.length) cw)) fun b e=>bw w7 ⟨Bj,8,none⟩ _ b (fun q=>HOW7.o.ne Ny.o Tcg (e.trans (fj some q)));rw [cD] at h7;exact h7
     case measure=>simp [intOf];omega
    ·obtain rfl:k=nl.length:=by omega
     rw [cI] at HOW;have nt:=tQ DG.o.dt nl;obtain ⟨jp,jc,rfl,_,_⟩:=(HOW.o.rd (ok:=fun _=>True) (fun _ _=>trivial)).cap;have Y5:=aa (HOW.o.rd (ok:=fun _=>True) (fun _ _=>trivial));have SH:Hid (ck aF 1 (fun _=>True) wr [.slice np nl.length nc] nl):=aa ((ck.moves aF.moves).mv ⟨sq.o.size,fun b hb ho=>⟨trivial,sq.o.block b hb ho⟩⟩ WO.o);generalize vt:kR g nl=jl at *;have HJL:=aa vt;clear vt;clear HOW sq WO Uu KT;have Y6:Hid (qd (wr.alloc (.cells #[.func (.func 51) #[] #[],.func (.func 52) #[] #[],.func (.func 53) #[] #[],.func (.func 54) #[] #[]] 103)) wr.heap.size):=aa (b9 wr _);have hA:=ae wr (.cells #[.func (.func 51) #[] #[],.func (.func 52) #[] #[],.func (.func 53) #[] #[],.func (.func 54) #[] #[]] 103);have Ix:=aa (K5.o.trans (hA.mono K5.o.size));have L1:=aa (PJ.o.below hA);have SI:=aa ((hA.block Bj (aq KU.o)).trans KU.o);have WS:=aa (gI aF.moves Y5.o hA);have WT:=aa (gI aF.moves SH.o hA);clear hA K5 PJ KU Y5 SH
     go_upto_region 15 with (fail)
     generalize hW8:World.alloc wr _=W8 at *;generalize Uc:wr.heap.size=Bc at *;clear hW8;have g6:=L1.o.gc 6 _ rfl
     go_upto_region 16 with (fail)
     clear g6;have Wt:Hid (ck aO 7 (fun b=>b<w.heap.size) W8 [.slice a.dp g.Gb.length a.dc] g.Gb):=aa ((HG.o.mv (ok':=fun b=>b<w.heap.size) ⟨Ix.o.size,fun b hb _=>⟨hb,Ix.o.block b hb⟩⟩).Gb);have Lm:Hid (dN (fun b=>b<w.heap.size) W8 g a):=aa (HG.o.mv (ok':=fun b=>b<w.heap.size) ⟨Ix.o.size,fun b hb _=>⟨hb,Ix.o.block b hb⟩⟩);have CD:=DG.o.dl;have hsz8:=Ix.o.size;generalize Wu:a.dp=dpx at *;generalize Wv:a.dc=dcx at *;clear Wu Wv
     go_loopw [13,58] (fun ov i wr=>∃ m:Nat,m<=g.Gb.length/\i=.int .i64 m/\Below W8.heap.size W8 wr/\∃ xs,fH wr W8.heap.size ov xs/\xs.length=m/\tK g r xs) (fun _ i _=>g.Gb.length - (intOf i).toNat)
     case atStart=>exact ⟨0,cg _,rfl,bj _ _,[],fH.nil _ _,rfl,fun i d x _ h=>by cases h⟩
     case round =>
      obtain ⟨m,hm,rfl,hB,xs,hown,vh,Uv⟩:=hrel;have HB:=aa hB;clear hB;have HOW:=aa hown;clear hown;have NZ:=aa Uv;clear Uv;have LZ:=HB.o.size
      by_cases hlt:m<g.Gb.length
      ·obtain ⟨d,hd⟩:=aj g.Gb m hlt
       obtain ⟨b,off,us,hsp,gR,cX,ez,eE,hcv⟩:=Wt.o.elem hd;obtain ⟨tv,rfl,ew⟩:=eE;obtain ⟨tp,tc,rfl,_,_⟩:=ew.cap;have cT:wr.heap[b]?=W8.heap[b]?:=HB.o.block b cX;have hdt:=DG.o.dt d (ct hd);have kj:=aa (DG.o.de d (ct hd));have WU:=aa (DG.o.df m d hd);have HD:=aa hd;clear hd;subst hsp;obtain ⟨q0,q1,q2,q3,q4,q5,q6⟩:=OD cT hcv;clear hcv ez cT;have hA:=ae wr (.cells (Tai d tp tc) 47);have sX:=aa (b9 wr (.cells (Tai d tp tc) 47));have hb9:=HB.o.trans (hA.mono HB.o.size);have J1:=aa hb9;have HOW9:=aa (HOW.o.below hA);have Hx:Hid (ck aF 1 (fun _=>True) (wr.alloc (.cells (Tai d tp tc) 47)) [.slice tp d.tags.length tc] d.tags):=aa ((ck.moves aF.moves).mv ⟨hb9.size,fun b hb _=>⟨trivial,hb9.block b hb⟩⟩ ew);have Y7:Hid (kF (wr.alloc (.cells (Tai d tp tc) 47)) Bj wr.heap.size r np jp nc jc nl jl d tp tc):=aa ⟨⟨(hb9.block Bj (aq SI.o)).trans SI.o,sX.o⟩,gI aF.moves WT.o hb9,gI aF.moves WS.o hb9,Hx.o⟩;have J5:=aa (oD Y7.o ((hb9.block Bc (aq Y6.o)).trans Y6.o) Tcd Tcd Tcd);have Kp:Hid (nD g r d=iD nl jl r d):=aa (by unfold nD;rw [WQ.o,HJL.o]);clear hA hb9 ew Hx Y7 HOW HB
       go_upto_region 18 with (fail)
       clear q0 q1 q2 q3 q4 q5 q6;generalize hW9:World.alloc wr _=W9 at *;generalize J6:wr.heap.size=Bd at *;clear hW9
       go_wp2_with fail
       refine J5.o.mono ?_;clear J5;rintro e w10 ⟨rfl,hb10⟩;have Ax:=aa (J1.o.trans (hb10.mono J1.o.size));have HOW10:=aa (HOW9.o.below hb10);have Ku:=aa ((hb10.block _ (aq sX.o)).trans sX.o);have hsz10:=Ax.o.size;clear hb10 J1 HOW9 sX;cases Uw:iD nl jl r d with
       | false =>
        have Nv:=aa (zo (Kp.o.trans Uw));clear Uw
        go_wp2_with (at_builtin;refine iA rfl _ _ rfl W8.heap.size _ xs (.slice none 0 0) [] rfl ?c1 ?c2 w10.heap.size 1 rfl ?c3 ?c4 ?c5 ?_)
        all_goals first | (case c1=>exact HOW10.o.below (ae _ _)) | (case c2=>exact bM.nil _ _) | (case c3=>exact aD rfl rfl) | (case c4=>omega) | (case c5=>simp;omega) | skip
        intro v' w11 hown1 hb11 _;have C7:=aa ((Ax.o.alloc hsz10 _).trans hb11);have HOW11:=aa hown1;clear hown1 hb11;go_wp2;go_roundw
        case rel=>exact ⟨m+1,Tcd,Tch,C7.o,_,HOW11.o,by simp [vh],NZ.o.snoc Tde Nv.o Tce rfl⟩
        case measure=>simp [intOf];omega
       | true =>
        have Qo:=aa (Kp.o.trans Uw);clear Uw;have L3:Hid (jF w10 Bg Br g a r):=aa ⟨(Ax.o.block _ (aq L1.o.g)).trans L1.o.g,(Ax.o.block _ (aq L1.o.r)).trans L1.o.r⟩;have gL:=L3.o.gc;obtain ⟨g0,g1,g2,g3,g4,g5,g6,g7,g8⟩:=xr gL;clear gL;have d0:=cr Ku.o 0 _ rfl
        have hgr10:dN (fun b=>b<w.heap.size) w10 g a:=Lm.o.mv ⟨Ax.o.size,fun b hb ho=>⟨ho,Ax.o.block b hb⟩⟩;have SJ:=aa (Di (ok:=fun b=>b<w.heap.size) g.name g.id g.seq g.Gd g.next a.tp a.dp a.vp a.hp g.tags.length a.tc a.dc a.vc g.history.length a.hc g.Gb g.F9 d.name w10 hgr10.Gb Tcd (fun D hD=>by have:=DG.o.dt D hD;omega) (fun D hD=>by have:=DG.o.de D hD;omega) hgr10.F9 (by have:=DG.o.vl;omega) DG.o.tm (fun p hp=>by have:=DG.o.ps p hp;omega) (by have:=DG.o.pn;omega));clear hgr10
        go_wp2_with fail
        clear g0 g1 g2 g3 g4 g5 g6 g7 g8 d0;refine SJ.o.mono ?_;clear SJ;intro e w11 hf;unfold zR at hf;rw [WU.o] at hf;obtain ⟨fv,x,rfl,SK,hfn,SM,ML,hb11⟩:=hf;have CM:=aa (SK.mono (B':=W8.heap.size) hsz10);clear SK;have WG:Hid (iE x (xy g d)):=aa hfn;clear hfn;have Ux:=aa SM;clear SM;have hpn:=DG.o.pn;have PK:x.length<=30000:=by omega
        clear ML hpn;have C7:=aa (Ax.o.trans (hb11.mono hsz10));have HOW11:=aa (HOW10.o.below hb11);have Om:=aa (L3.o.below hb11);have SN:=aa ((hb11.block _ (aq Ku.o)).trans Ku.o);have hsz11:=C7.o.size;clear hb11 Ax HOW10 L3 Ku
        go_upto_region 23 with (fail)
        have rL:=Om.o.rc;obtain ⟨r0,r1,r2,r3,r4,r5,r6⟩:=se rL;clear rL;have N8:Hid (uM r=(r.Gg == 1&&!r.near.toList.isEmpty)):=aa rfl
        have key:(r.Gg == 1)=false\/((r.Gg == 1)=true/\r.near.toList.isEmpty=true)\/((r.Gg == 1)=true/\r.near.toList.isEmpty=false):=by
         cases (r.Gg == 1) <;> cases r.near.toList.isEmpty <;> simp
        rcases key with h1 | ⟨h1,h2⟩ | ⟨h1,h2⟩
        ·rw [h1] at N8
         have Oe:=aa (tq Qo.o N8.o WG.o);obtain ⟨pf,nf,cf,rfl⟩:=CM.o.slice
         go_wp2_with (at_builtin;refine iA rfl _ _ rfl W8.heap.size _ xs (.slice pf nf cf) x rfl ?c1 ?c2 w11.heap.size 1 rfl ?c3 ?c4 ?c5 ?_)
         all_goals first | (case c1=>exact HOW11.o.below (ae _ _)) | (case c2=>exact CM.o.below (ae _ _)) | (case c3=>exact aD rfl rfl) | (case c4=>omega) | (case c5=>simp;omega) | skip
         intro v' w12 hown1 hb12 _;have KV:=aa ((C7.o.alloc hsz11 _).trans hb12);have HOW12:=aa hown1;clear hown1 hb12;go_wp2;go_roundw
         case rel=>exact ⟨m+1,Tcd,Tch,KV.o,_,HOW12.o,by simp [vh],NZ.o.snoc Tde Oe.o Tcd Ux.o⟩
         case measure=>simp [intOf];omega
        ·rw [h1,h2] at N8
         have Oe:=aa (tq Qo.o N8.o WG.o);obtain ⟨pf,nf,cf,rfl⟩:=CM.o.slice
         go_wp2_with (at_builtin;refine iA rfl _ _ rfl W8.heap.size _ xs (.slice pf nf cf) x rfl ?e1 ?e2 w11.heap.size 1 rfl ?e3 ?e4 ?e5 ?_)
         all_goals first | (case e1=>exact HOW11.o.below (ae _ _)) | (case e2=>exact CM.o.below (ae _ _)) | (case e3=>exact aD rfl rfl) | (case e4=>omega) | (case e5=>simp;omega) | skip
         intro v' w12 hown1 hb12 _;have KV:=aa ((C7.o.alloc hsz11 _).trans hb12);have HOW12:=aa hown1;clear hown1 hb12;go_wp2;go_roundw
         case rel=>exact ⟨m+1,Tcd,Tch,KV.o,_,HOW12.o,by simp [vh],NZ.o.snoc Tde Oe.o Tcd Ux.o⟩
         case measure=>simp [intOf];omega
        ·rw [h1,h2] at N8
         have gL:=Om.o.gc;obtain ⟨g0,g1,g2,g3,g4,g5,g6,g7,g8⟩:=xr gL;clear gL;have d0:=cr SN.o 0 _ rfl
         have qu:∀ p∈x,0<=p.1/\1<=p.2/\p.1+p.2<=1073741824:=fun p hp=>by
          have c:=WG.o.1.1 p hp;have c1:=((WG.o.2 p.1).1 ⟨p,hp,Tcd,Tcd⟩).1;have c2:=((WG.o.2 (p.1+p.2 - 1)).1 ⟨p,hp,Tcd,Tcd⟩).1;have:=kj.o;omega
         have PH:Hid ((jE g r.near).length<=10):=aa (by
          refine cA (Bu (m:=6) ?_) Tcd;cases hf:aM g.F9 r.near with
          | none=>intro s hs;simp [eY] at hs
          | some v=>exact fun s hs=>DG.o.a6 v (eV hf) s hs)
         have TM:=aa (yI (ok:=fun b=>b<w.heap.size) g a r.near d.name x fv w11 ((Lm.o.mv (ok':=fun b=>b<w.heap.size) ⟨C7.o.size,fun b hb ho=>⟨ho,C7.o.block b hb⟩⟩).F9) DG.o.nd.us.sz DG.o.tm DG.o.st CM.o.rd qu PK PH.o);clear qu
         go_wp2_with fail
         clear g0 g1 g2 g3 g4 g5 g6 g7 g8 d0 r0 r1 r2 r3 r4 r5 r6;refine TM.o.mono ?_;clear TM;rintro e w12 ⟨yv,y,rfl,SP,WV,Nz,hb12⟩;have Y8:=aa (SP.mono (B':=W8.heap.size) hsz11);clear SP;have Oe:=aa (yE Qo.o N8.o WG.o WV)
         have HYV:Hid (dI y=true):=aa (jC WV (xS fun p hp=>by
          have c:=WG.o.1.1 p hp;have c1:=((WG.o.2 p.1).1 ⟨p,hp,Tcd,Tcd⟩).1;have c2:=((WG.o.2 (p.1+p.2 - 1)).1 ⟨p,hp,Tcd,Tcd⟩).1;have:=kj.o
          omega))
         have KV:=aa (C7.o.trans (hb12.mono hsz11));have HOW12:=aa (HOW11.o.below hb12);have hsz12:=KV.o.size;clear hb12 WV;obtain ⟨pf,nf,cf,rfl⟩:=Y8.o.slice
         go_wp2_with (at_builtin;refine iA rfl _ _ rfl W8.heap.size _ xs (.slice pf nf cf) y rfl ?f1 ?f2 w12.heap.size 1 rfl ?f3 ?f4 ?f5 ?_)
         all_goals first | (case f1=>exact HOW12.o.below (ae _ _)) | (case f2=>exact Y8.o.below (ae _ _)) | (case f3=>exact aD rfl rfl) | (case f4=>omega) | (case f5=>simp;omega) | skip
         intro v' w13 hown1 hb13 _;have WX:=aa ((KV.o.alloc hsz12 _).trans hb13);have HOW13:=aa hown1;clear hown1 hb13;go_wp2;go_roundw
         case rel=>exact ⟨m+1,Tcd,Tch,WX.o,_,HOW13.o,by simp [vh],NZ.o.snoc Tde Oe.o Tcd HYV.o⟩
         case measure=>simp [intOf];omega
      ·obtain rfl:m=g.Gb.length:=by omega
       have B3:=aa (Ix.o.trans (HB.o.mono hsz8));go_wp2;go_ret2;exact ⟨B3.o,.inr ⟨HP.o,_,xs,rfl,HOW.o.mono hsz8,vh,NZ.o⟩⟩
 ·have qu:(kP g r != 0)=true:=by simpa using hp
  have HP:=aa hp;clear hp;go_wp2;go_ret2;exact ⟨cm.o,.inl ⟨HP.o,rfl⟩⟩
attribute [local go_sem] Oper.semAt_some
def Hy:Code->Option Code
 | .rangeFunc g ps a b=>some (.rangeFunc g ps a b)
 | .seq a b=>match Hy a with
  | some c=>some c
  | none=>Hy b
 | .block _ c=>Hy c
 | .loop c=>Hy c
 | .scope c=>Hy c
 | .cond _ a b=>match Hy a with
  | some c=>some c
  | none=>Hy b
 | _=>none
end Go.Proofs.YtjdfihglehfelaaGreatDoor
namespace Go.Proofs.YtjdfihglehfelaaGreatDoor
open Go.Proofs.Tryz
open Go.RowKit Go.Shelf
attribute [local go_sem] Oper.semAt_some
end Go.Proofs.YtjdfihglehfelaaGreatDoor
namespace Go.Proofs.YtjdfihglehfelaaGreatDoor
open Go.Proofs.Tryz
open Go.RowKit Go.Maps Go.Shelf
def mq (sep t:ByteArray):Bool:=!sep.toList.isEmpty&&Lib.hasPrefix t.data.toList sep.data.toList
def nU (sep:ByteArray)(d:az):ByteArray:=match d.tags.find? (mq sep) with
 | some t=>t
 | none=>d.name++⟨#[32]⟩
def jU (g:af)(r:aY)(k:Int):ByteArray:=if k<0 then ⟨#[]⟩ else match g.Gb[k.toNat]? with
 | none=>⟨#[]⟩
 | some d=>nU r.sep d
def FZ (s:ByteArray)(w:World)(e:Ending)(w':World):Prop:=e=.returned (.string s)/\Below w.heap.size w w'
theorem sj (s p:ByteArray)(w:World):Calls prog 98 #[.string s,.string p] w fun e w'=>e=.returned (.bool (Lib.hasPrefix s.data.toList p.data.toList))/\w'=w:=Any.strings_HasPrefix Tryz.lays99 s p w
theorem ug {ok:Nat->Prop}(g:af)(a:bN)(r:aY)(k:Int)(w:World)(hr:ck aO 7 ok w [.slice a.dp g.Gb.length a.dc] g.Gb)(CD:g.Gb.length<=1000000)(nt:∀ d∈g.Gb,d.tags.length<=1000000/\d.name.size<=1000000)(hk:-9223372036854775808<=k/\k<=9223372036854775807) :
  Calls prog 48 #[.agg (Tae g a),.agg (Taj r),.int .i64 k] w (FZ (jU g r k) w):=by
 have HG:=aa hr;clear hr;have Oj:=aa nt;clear nt;have hA1:=ae w (.cells (Tae g a) 31);have hA2:=ae (w.alloc (.cells (Tae g a) 31)) (.cells (Taj r) 35);have hN1:=b9 w (.cells (Tae g a) 31);have hN2:=b9 (w.alloc (.cells (Tae g a) 31)) (.cells (Taj r) 35);rw [cW] at hN2;have Fm:Hid (jF ((w.alloc (.cells (Tae g a) 31)).alloc (.cells (Taj r) 35)) w.heap.size (w.heap.size+1) g a r):=aa ⟨(hA2.block _ (aq hN1)).trans hN1,hN2⟩;have cU:=aa (hA1.trans (hA2.mono hA1.size));clear hA1 hA2 hN1 hN2;go_enter func48,ntmps48
 go_upto_region 1 with (fail)
 generalize hW1:World.alloc (World.alloc w _) _=W1 at *;generalize Rz:w.heap.size+1=Br at *;generalize LY:w.heap.size=Bg at *;have pd:Hid (Below w.heap.size w W1):=aa (by rw [LY];exact cU.o);clear hW1 cU;have g6:=Fm.o.gc 6 _ rfl;have r6:=Fm.o.rc 6 _ rfl
 by_cases h0:k<0
 ·have HR:Hid (jU g r k=⟨#[]⟩):=aa (by unfold jU;rw [aw h0])
  go_wp2;go_ret;exact ⟨Tcl,pd.o⟩
 ·obtain ⟨j,rfl⟩:=D4 (by omega:0<=k)
  by_cases hlt:j<g.Gb.length
  ·obtain ⟨d,hd⟩:=aj g.Gb j hlt
   have HR:Hid (jU g r j=nU r.sep d):=aa (by unfold jU;rw [bh h0,Int.toNat_natCast,hd]);have WY:=Oj.o d (ct hd);obtain ⟨b,off,us,hsp,gR,cX,ez,eE,hcv⟩:=HG.o.elem hd;obtain ⟨tv,rfl,ew⟩:=eE;obtain ⟨tp,tc,rfl,_,_⟩:=ew.cap;rw [hsp] at g6;have cT:=pd.o.block b cX;obtain ⟨q0,q1,q2,q3,q4,q5,q6⟩:=OD cT hcv;clear hcv ez cT hd hsp;have hA:=ae W1 (.cells (Tai d tp tc) 47);have sX:=aa (b9 W1 (.cells (Tai d tp tc) 47));have cm:=aa (pd.o.trans (hA.mono pd.o.size));have r6':=(Fm.o.below hA).rc 6 _ rfl;have Hx:=aa ((ck.moves aF.moves).mv (ok':=fun b=>ok b) ⟨cm.o.size,fun b hb ho=>⟨ho,cm.o.block b hb⟩⟩ ew);clear hA ew r6
   go_upto_region 4 with (fail)
   clear q0 q1 q2 q3 q4 q5 q6 g6;generalize hW2:World.alloc W1 _=W2 at *;generalize J6:W1.heap.size=Bd at *;clear hW2;have d6:=cr sX.o 6 _ rfl;have d0:=cr sX.o 0 _ rfl
   go_upto_region 5 with (fail)
   clear d6;have ad2:=WY.1;have hnz:=WY.2;clear WY
   go_loop [27] (fun i=>∃ m:Nat,m<=d.tags.length/\i=.int .i64 m/\(d.tags.take m).find? (mq r.sep)=none) (fun i=>d.tags.length - (intOf i).toNat)
   case atStart=>exact ⟨0,cg _,rfl,rfl⟩
   case round =>
    obtain ⟨m,hm,rfl,hfn⟩:=hrel;have WG:=aa hfn;clear hfn
    by_cases hlt2:m<d.tags.length
    ·obtain ⟨t,ht⟩:=aj d.tags m hlt2
     obtain ⟨b3,off3,us3,hsp3,B7,wa,pT,J8,hcv3⟩:=Hx.o.elem ht;obtain rfl:us3=_:=J8;subst hsp3;have q0:=hcv3 0 _ rfl;rw [fp,fg] at q0
     have HF1:Hid (mq r.sep t=true->nU r.sep d=t):=aa fun hb=>by
      have:d.tags.find? (mq r.sep)=some t:=by
       rw [<- rk m d.tags,tD,WG.o,drop_at ht];simp [hb]
      unfold nU;rw [this]
     have KD:Hid (mq r.sep t=false->(d.tags.take (m+1)).find? (mq r.sep)=none):=aa fun hb=>by
      rw [take_snoc' d.tags m t ht,tD,WG.o];simp [hb]
     have nw:Hid (mq r.sep t=(!r.sep.toList.isEmpty&&Lib.hasPrefix t.data.toList r.sep.data.toList)):=aa rfl;clear ht hcv3 pT;have Uy:=aa (sj t r.sep W2);cases OQ:r.sep.toList.isEmpty with
     | true =>
      rw [OQ] at nw;have E3:=aa (KD.o nw.o);go_wp2;go_round
      case rel=>exact ⟨m+1,Tcd,Tch,E3.o⟩
      case measure=>simp [intOf];omega
     | false =>
      rw [OQ] at nw;cases Uz:Lib.hasPrefix t.data.toList r.sep.data.toList with
      | true =>
       rw [Uz] at nw Uy;have E3:=aa (HF1.o nw.o);clear Uz
       go_wp2_with (refine Uy.o.mono ?_;rintro e w5 ⟨rfl,rfl⟩)
       go_ret;exact ⟨by rw [HR.o,E3.o];rfl,cm.o⟩
      | false =>
       rw [Uz] at nw Uy;have E3:=aa (KD.o nw.o);clear Uz
       go_wp2_with (refine Uy.o.mono ?_;rintro e w5 ⟨rfl,rfl⟩)
       go_round
       case rel=>exact ⟨m+1,Tcd,Tch,E3.o⟩
       case measure=>simp [intOf];omega
    ·obtain rfl:m=d.tags.length:=by omega
     rw [cI] at WG;have E3:Hid (nU r.sep d=d.name++⟨#[32]⟩):=aa (by unfold nU;rw [WG.o]);have ad3:¬ (9223372036854775807<d.name.size+1):=by omega
     go_wp2;go_ret;exact ⟨by rw [HR.o,E3.o];rfl,cm.o⟩
  ·have HR:Hid (jU g r j=⟨#[]⟩):=aa (by unfold jU;rw [bh h0,Int.toNat_natCast,xj Tcd])
   go_wp2;go_ret;exact ⟨Tcl,pd.o⟩
end Go.Proofs.YtjdfihglehfelaaGreatDoor
