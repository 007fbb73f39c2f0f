/- Lemmas: PolAc, PolF, SpT. -/
import Derived.Test.YtaagglbgohjldaaGreatDoorQv28
set_option maxRecDepth 100000
set_option maxHeartbeats 32000000
set_option linter.all false
namespace Go.Proofs.YtaagglbgohjldaaGreatDoor
open Go.Proofs.Tryz
open Go.RowKit Go.Maps Go.Shelf
variable {ok:Nat->Prop}{g:af}{r:aY}{d:az}{x:List (Int × Int)}{k:Nat}
theorem Tdt {p:Prop}(h:p:=by rw [HT.o,HQ.o];rfl):p:=h
theorem Tee {p:Prop}(h:p:=by simp [eu,Sz]):p:=h
theorem Tds {p:Prop}(h:p:=by rw [LU.o,HRE.o];rfl):p:=h
theorem TdO {p:Prop}(h:p:=by rw [yi.o];simp):p:=h
theorem yQ (g:af)(a:bN)(r:aY)(w:World)(hg:dN ok w g a)(hi:NL g)(hr:dK r)(hS:AW w) :
  Calls prog 25 #[.agg (Tad g a),.agg (Tal r)] w (FY (kP g r) w):=by
 have HG:=aa hg;clear hg;have HI:=aa hi;clear hi;have MD:=aa hS;clear hS;obtain ⟨hl,hs,he,hp,ht,hn,hq⟩:=hr;have hA1:=ae w (.cells (Tad g a) 31);have hA2:=ae (w.alloc (.cells (Tad g a) 31)) (.cells (Tal r) 34);have hN1:=b9 w (.cells (Tad g a) 31);have hN2:=b9 (w.alloc (.cells (Tad g a) 31)) (.cells (Tal r) 34);rw [cW] at hN2;have Fm:Hid (jF ((w.alloc (.cells (Tad g a) 31)).alloc (.cells (Tal r) 34)) w.heap.size (w.heap.size+1) g a r):=aa ⟨(hA2.block _ (aq hN1)).trans hN1,hN2⟩;have cU:=aa (hA1.trans (hA2.mono hA1.size));clear hA1 hA2 hN1 hN2;go_enter func25,ntmps25
 go_upto_region 1 with (fail);generalize hW1:World.alloc (World.alloc w _) _=W1 at *;generalize Ms:w.heap.size=Bg at *;generalize Rz:Bg+1=Br at *;clear hW1;have Tm:Hid (Below w.heap.size w W1):=aa (by rw [Ms];exact cU.o);clear cU;have gL:=Fm.o.gc;obtain ⟨g0,g1,g2,g3,g4,g5,g6,g7,g8⟩:=xr gL;clear gL;go_wp2_with fail;clear g0 g1 g2 g3 g4 g5 g6 g7 g8;refine (Bz (ok:=ok) g a W1 (HG.o.mv (Mv.of Tm.o)) HI.o (MD.o.below Tm.o)).mono ?_;rintro e w2 ⟨rfl,hb2⟩;have cm:=Zbl Tm hb2;have aq6:=aa (Fm.o.below hb2);clear hb2 Tm Fm;have LU:Hid (kP g r=if (mchk g).2=0 then yZ g r else (mchk g).2):=aa rfl;generalize hm:mchk g=m at *;obtain ⟨p1,x1⟩:=m;have HM:=aa hm;clear hm;by_cases hx:x1=0
 ·have qu:(x1 != 0)=false:=by simpa using hx
  have HX:=aa hx;clear hx;go_upto_region 4 with (fail);clear qu;rw [aw HX.o] at LU;have gL:=aq6.o.gc;obtain ⟨g0,g1,g2,g3,g4,g5,g6,g7,g8⟩:=xr gL;clear gL;have rL:=aq6.o.rc;have r5:=rL 5 _ rfl;clear rL;have HCV:=aa (fA (ok:=fun b=>ok b/\b<w.heap.size) g a r.near w2 ((ck.moves aN.moves).mv ⟨cm.o.size,fun b hb ho=>⟨⟨ho,hb⟩,cm.o.block b hb⟩⟩ (dN.F9 HG.o)) HI.o.sz.vl HI.o.sz.vz);go_wp2_with fail;clear g0 g1 g2 g3 g4 g5 g6 g7 g8 r5;refine HCV.o.mono ?_;clear HCV;rintro e w3 ⟨u,rfl,sA,hb3⟩;have cJ:=Zbl cm hb3;have C6:=aa (aq6.o.below hb3);have ld:Hid (xM g r=if r.near.toList.isEmpty then !OC r else (aM g.F9 r.near).isSome):=aa rfl;generalize (aM g.F9 r.near).isSome=YW at *;obtain ⟨tv,sv,rfl,ew,fL⟩:=sA;obtain ⟨tp,tc,rfl,_,_⟩:=ew.cap;obtain ⟨sp,sc,rfl,hsc1,hsc2⟩:=fL.cap;clear ew fL hb3 cm aq6;generalize (aM g.F9 r.near).getD eY=v at *;have hA:=ae w3 (.cells (Taf v tp tc sp sc) 68);have eI:=Zbl cJ hA;have Sy:=aa (C6.o.below hA);clear hA cJ C6;go_upto_region 5 with (fail);generalize hW4:World.alloc w3 _=W4 at *;clear hW4;have rL:=Sy.o.rc;obtain ⟨r0,r1,r2,r3,r4,r5,r6⟩:=se rL;clear rL;go_cut [9] (fun v wc=>v=.bool (OC r)/\wc=W4)
  case first =>
   cases h2:(r.Gg == 2) with
   | true =>
    go_wp2;go_meet;exact ⟨by simp [OC,h2],rfl⟩
   | false =>
    cases h3:(r.Gg == 3) with
    | true =>
     go_wp2;go_meet;exact ⟨by simp [OC,h3],rfl⟩
    | false =>
     go_wp2;go_meet;exact ⟨by simp [OC,h2,h3],rfl⟩
  case rest =>
   obtain ⟨rfl,rfl⟩:=hcut;generalize OC r=c at *;have HW:=aa uT;have HRE:Hid (yZ g r=if Dr r=false then 1 else if Ek r.Gg 5=false then 17 else if xM g r=false then 12 else if (eu r.tag&&eu r.sep)=false then 2 else 0):=aa rfl;go_upto_region 7 with (fail);go_cut [34] (fun v wx=>v=.bool (!Dr r)/\wx=wc)
   case first =>
    have hc1:=uT r.Gi 6 wc;have hc2:=uT r.Gh 6 wc;have hc3:=uT r.Gc 4096 wc;have yi:Hid (Dr r=(Ek r.Gi 6&&Ek r.Gh 6&&decide (r.Gi*r.Gh<=6)&&Ek r.Gc 4096)):=aa rfl;cases h1:Ek r.Gi 6 with
    | false =>
     rw [h1] at hc1 yi;have H1:=aa h1;clear h1;go_wp2_with (first | ((with_reducible refine hc1.mono ?_);rintro e w5 ⟨rfl,rfl⟩) | ((with_reducible refine hc2.mono ?_);rintro e w5 ⟨rfl,rfl⟩) | ((with_reducible refine hc3.mono ?_);rintro e w5 ⟨rfl,rfl⟩))
     go_meet;exact ⟨TdO,rfl⟩
    | true =>
     have hb1:1<=r.Gi/\r.Gi<=6:=by simpa [Ek] using h1
     rw [h1] at hc1 yi;have H1:=aa h1;clear h1;cases h2:Ek r.Gh 6 with
     | false =>
      rw [h2] at hc2 yi;have H2:=aa h2;clear h2;go_wp2_with (first | ((with_reducible refine hc1.mono ?_);rintro e w5 ⟨rfl,rfl⟩) | ((with_reducible refine hc2.mono ?_);rintro e w5 ⟨rfl,rfl⟩) | ((with_reducible refine hc3.mono ?_);rintro e w5 ⟨rfl,rfl⟩))
      go_meet;exact ⟨TdO,rfl⟩
     | true =>
      have hb2:1<=r.Gh/\r.Gh<=6:=by simpa [Ek] using h2
      rw [h2] at hc2 yi;have H2:=aa h2;clear h2;have hm1:0<=r.Gi*r.Gh:=oA TcC TcC;have hm2:r.Gi*r.Gh<=6*6:=tW hb1.2 hb2.2 TcC TcC;have hwr:IntKind.i64.wrap (r.Gi*r.Gh)=r.Gi*r.Gh:=dy _ TcC;have Nf:=aa hm1;clear hm1;have HM2:=aa hm2;clear hm2;by_cases h3:r.Gi*r.Gh<=6
      ·have hp:decide (6<r.Gi*r.Gh)=false:=cN TcC;rw [eA h3] at yi;have H3:=aa h3;clear h3;cases h4:Ek r.Gc 4096 with
       | false =>
        rw [h4] at hc3 yi;have H4:=aa h4;clear h4;go_wp2_with (first | ((with_reducible refine hc1.mono ?_);rintro e w5 ⟨rfl,rfl⟩) | ((with_reducible refine hc2.mono ?_);rintro e w5 ⟨rfl,rfl⟩) | ((with_reducible refine hc3.mono ?_);rintro e w5 ⟨rfl,rfl⟩))
        go_meet;exact ⟨TdO,rfl⟩
       | true =>
        rw [h4] at hc3 yi;have H4:=aa h4;clear h4;go_wp2_with (first | ((with_reducible refine hc1.mono ?_);rintro e w5 ⟨rfl,rfl⟩) | ((with_reducible refine hc2.mono ?_);rintro e w5 ⟨rfl,rfl⟩) | ((with_reducible refine hc3.mono ?_);rintro e w5 ⟨rfl,rfl⟩))
        go_meet;exact ⟨TdO,rfl⟩
      have hp:decide (6<r.Gi*r.Gh)=true:=eA TcC;rw [cN h3] at yi;have H3:=aa h3;clear h3;go_wp2_with (first | ((with_reducible refine hc1.mono ?_);rintro e w5 ⟨rfl,rfl⟩) | ((with_reducible refine hc2.mono ?_);rintro e w5 ⟨rfl,rfl⟩) | ((with_reducible refine hc3.mono ?_);rintro e w5 ⟨rfl,rfl⟩))
      go_meet;exact ⟨TdO,rfl⟩
   case rest =>
    obtain ⟨rfl,rfl⟩:=hcut;have eK:=aa eI.o;cases sB:Dr r with
    | false =>
     rw [sB,aw rfl] at HRE;go_wp2;go_ret;exact ⟨Tds,eI.o⟩
    | true =>
     rw [sB,bh TcD] at HRE;have yi:=aa sB;clear sB;by_cases hp1:1<=r.Gg
     ·by_cases hp5:r.Gg<=5
      ·have hw5:Ek r.Gg 5=true:=by simp [Ek,hp1,hp5]
       rw [hw5,bh TcD] at HRE;have HW5:=aa hw5;clear hw5;have hq1:decide (r.Gg<1)=false:=cN TcC;have hq5:decide (5<r.Gg)=false:=cN TcC;go_upto_region 11 with (fail);go_cut [71] (fun v wx=>v=.bool (!xM g r)/\wx=wc)
       case first =>
        cases hne:r.near.toList.isEmpty with
        | true =>
         rw [hne,aw rfl] at ld;cases c with
         | true =>
          go_wp2;go_meet;exact ⟨by rw [ld.o];rfl,rfl⟩
         | false =>
          go_wp2;go_meet;exact ⟨by rw [ld.o];rfl,rfl⟩
        | false =>
         rw [hne,bh TcD] at ld;cases YW with
         | true =>
          go_wp2;go_meet;exact ⟨by rw [ld.o];rfl,rfl⟩
         | false =>
          go_wp2;go_meet;exact ⟨by rw [ld.o];rfl,rfl⟩
       case rest =>
        obtain ⟨rfl,rfl⟩:=hcut;cases sy:xM g r with
        | false =>
         rw [sy,aw rfl] at HRE;have HN:=aa sy;clear sy;go_wp2;go_ret;exact ⟨Tds,eI.o⟩
        | true =>
         rw [sy,bh TcD] at HRE;have HN:=aa sy;clear sy;go_upto_region 13 with (fail);go_cut [87] (fun v wx=>v=.bool (!(eu r.tag&&eu r.sep))/\Below wc.heap.size wc wx)
         case first =>
          have ht1:=ry r.tag wc ht;cases PE:r.tag.toList.isEmpty with
          | true =>
           have HT:Hid (eu r.tag=true):=aa (by simp [eu,PE]);have hq1:=ry r.sep wc hq;cases Sz:r.sep.toList.isEmpty with
           | true =>
            have HQ:Hid (eu r.sep=true):=aa Tee;go_wp2;go_meet;exact ⟨Tdt,bj _ _⟩
           | false =>
            have HQ:Hid (eu r.sep=mr r.sep):=aa Tee;cases htb:mr r.sep with
            | true =>
             rw [htb] at hq1 HQ;have WM:=aa htb;clear htb;go_wp2_with ((with_reducible refine hq1.mono ?_);rintro e w5 ⟨rfl,hb5⟩)
             go_meet;exact ⟨Tdt,hb5⟩
            | false =>
             rw [htb] at hq1 HQ;have WM:=aa htb;clear htb;go_wp2_with ((with_reducible refine hq1.mono ?_);rintro e w5 ⟨rfl,hb5⟩)
             go_meet;exact ⟨Tdt,hb5⟩
          | false =>
           have HT:Hid (eu r.tag=mr r.tag):=aa (by simp [eu,PE]);cases htb:mr r.tag with
           | false =>
            rw [htb] at ht1 HT;have WM:=aa htb;clear htb;go_wp2_with ((with_reducible refine ht1.mono ?_);rintro e w5 ⟨rfl,hb5⟩)
            go_meet;exact ⟨by rw [HT.o];rfl,hb5⟩
           | true =>
            rw [htb] at ht1 HT;have WM:=aa htb;clear htb;go_wp2_with fail;refine ht1.mono ?_;rintro e w5 ⟨rfl,hb5⟩;have eK:=aa hb5;have rL:=(Sy.o.below hb5).rc;clear r0 r1 r2 r3 r4 r5 r6 hb5;have r6:=rL 6 _ rfl;clear rL;have Lz:=aa (ry r.sep w5 hq);clear ht1;cases Sz:r.sep.toList.isEmpty with
            | true =>
             have HQ:Hid (eu r.sep=true):=aa Tee;go_wp2;go_meet;exact ⟨Tdt,eK.o⟩
            | false =>
             have HQ:Hid (eu r.sep=mr r.sep):=aa Tee;cases htb:mr r.sep with
             | true =>
              rw [htb] at Lz HQ;have WN:=aa htb;clear htb;go_wp2_with fail;refine Lz.o.mono ?_;rintro e w6 ⟨rfl,hb6⟩;have Tq:=Zbl eK hb6;clear hb6 r6;go_wp2;go_meet;exact ⟨Tdt,Tq.o⟩
             | false =>
              rw [htb] at Lz HQ;have WN:=aa htb;clear htb;go_wp2_with fail;refine Lz.o.mono ?_;rintro e w6 ⟨rfl,hb6⟩;have Tq:=Zbl eK hb6;clear hb6 r6;go_wp2;go_meet;exact ⟨Tdt,Tq.o⟩
         case rest =>
          obtain ⟨rfl,PX⟩:=hcut;have B3:=Zbl eI PX;clear PX;cases gw:(eu r.tag&&eu r.sep) with
          | true =>
           rw [gw,bh TcD] at HRE;have j9:=aa gw;clear gw;go_wp2;go_ret;exact ⟨Tds,B3.o⟩
          | false =>
           rw [gw,aw rfl] at HRE;have j9:=aa gw;clear gw;go_wp2;go_ret;exact ⟨Tds,B3.o⟩
      have hw5:Ek r.Gg 5=false:=by simp [Ek,hp5]
      rw [hw5,aw rfl] at HRE;have HW5:=aa hw5;clear hw5;have hq1:decide (r.Gg<1)=false:=cN TcC;have hq5:decide (5<r.Gg)=true:=eA TcC;go_wp2;go_ret;exact ⟨Tds,eI.o⟩
     have hw5:Ek r.Gg 5=false:=by simp [Ek,hp1]
     rw [hw5,aw rfl] at HRE;have HW5:=aa hw5;clear hw5;have hq1:decide (r.Gg<1)=true:=eA TcC;go_wp2;go_ret;exact ⟨Tds,eI.o⟩
 have qu:(x1 != 0)=true:=by simpa using hx
 have HX:=aa hx;clear hx;go_wp2;go_ret;exact ⟨by rw [LU.o,bh HX.o];rfl,cm.o⟩
def tK (g:af)(r:aY)(xs:List (List (Int × Int))):Prop:=∀ (i:Nat) (d:az) (x:List (Int × Int)),g.Gb[i]?=some d->xs[i]?=some x->iE x (kI g r d)/\x.length<=300000/\dI x=true
def Dk (g:af)(r:aY)(w:World)(e:Ending)(w':World):Prop:=Below w.heap.size w w' /\
 ((¬ kP g r=0/\e=.returned (.tuple #[.slice none 0 0,.int .i64 (kP g r)])) \/
  (kP g r=0/\∃ v xs,e=.returned (.tuple #[v,.int .i64 0])/\fH w' w.heap.size v xs/\xs.length=g.Gb.length/\tK g r xs))
theorem tK.snoc {xs:List (List (Int × Int))}(h:tK g r xs)(hd:g.Gb[xs.length]?=some d)(h1:iE x (kI g r d))(h2:x.length<=300000)(h3:dI x=true):tK g r (xs++[x]):=by
 intro i d' y hd' hy;by_cases hi:i<xs.length
 ·rw [Fo hi] at hy;exact h i d' y hd' hy
 have hl:=(List.getElem?_eq_some_iff.1 hy).1;rw [cD,A4] at hl;obtain rfl:i=xs.length:=by omega
 rw [hd] at hd';obtain rfl:=gj hd';obtain rfl:x=y:=by simpa using hy
 exact ⟨h1,h2,h3⟩
theorem zo (h:nD g r d=false):iE [] (kI g r d):=⟨yP,fun n=>⟨fun q=>absurd q (jd n),fun q=>by rw [q.1] at h;cases h⟩⟩
theorem tq (h:nD g r d=true)(hn:uM r=false)(hx:iE x (xy g d)):iE x (kI g r d):=hx.congr fun n=>by
 unfold kI;rw [h,hn];simp
theorem yE {y:List (Int × Int)}(h:nD g r d=true)(hn:uM r=true)(hx:iE x (xy g d))(hy:iE y (Mem (mQ (jE g r.near) d.name x))):iE y (kI g r d):=hy.congr fun n=>by
 unfold kI;rw [h,hn,aw rfl];refine ⟨fun q=>⟨rfl,x,hx,q⟩,fun ⟨_,z,hz,q⟩=>?_⟩;rwa [hx.eq hz fun _=>Iff.rfl]
theorem tQ (h:∀ d∈g.Gb,d.tags.length<=8)(l:List ByteArray):(kR g l).length<=l.length*8:=lY _ _ _ fun nm _=>by
 cases hf:bH g.Gb nm with
 | none=>simp [gT]
 | some d=>exact h d (eV hf)
theorem yO (g:af){l:List ByteArray}{x:ByteArray}(h:l[k]?=some x):kR g (l.take (k+1))=kR g (l.take k)++((bH g.Gb x).getD gT).tags:=by
 rw [take_snoc' l k x h];simp [kR]
theorem AA (g:af)(r:aY):(gF g r).length<=g.Gb.length:=by
 unfold gF;split
 ·simp
 exact lq _ _ _
theorem E9.st (h:E9 g):∀ v∈g.F9,∀ s∈v.Gf,fP s->∀ a∈s.Ga,0<=a.start/\a.start<=1000000:=fun v hv s hs ho a ha=>by
 have:=h.ps (aJ v.name s a) (List.mem_flatMap.2 ⟨v,hv,List.mem_flatMap.2 ⟨s,hs,TeM⟩⟩);simp only [aJ] at this;omega
theorem Td4 {p:Prop}(h:p:=by rw [vh];exact HD.o):p:=h
theorem jk (g:af)(a:bN)(r:aY)(w:World)(hg:dN ok w g a)(hi:NL g)(hr:dK r)(hS:AW w) :
  Calls prog 9 #[.agg (Tad g a),.agg (Tal r)] w (Dk g r w):=by
 have HG:=aa hg;clear hg;have HI:=aa hi;clear hi;have MD:=aa hS;clear hS;have SA:=aa hr;clear hr;have hA1:=ae w (.cells (Tad g a) 31);have hA2:=ae (w.alloc (.cells (Tad g a) 31)) (.cells (Tal r) 34);have hN1:=b9 w (.cells (Tad g a) 31);have hN2:=b9 (w.alloc (.cells (Tad g a) 31)) (.cells (Tal r) 34);rw [cW] at hN2;have Fm:Hid (jF ((w.alloc (.cells (Tad g a) 31)).alloc (.cells (Tal r) 34)) w.heap.size (w.heap.size+1) g a r):=aa ⟨(hA2.block _ (aq hN1)).trans hN1,hN2⟩;have cU:=aa (hA1.trans (hA2.mono hA1.size));clear hA1 hA2 hN1 hN2;go_enter func9,ntmps9
 go_upto_region 1 with (fail);generalize hW1:World.alloc (World.alloc w _) _=W1 at *;generalize Rz:w.heap.size+1=Br at *;generalize LY:w.heap.size=Bg at *;have Tm:Hid (Below w.heap.size w W1):=aa Td6;clear hW1 cU;have gL:=Fm.o.gc;obtain ⟨g0,g1,g2,g3,g4,g5,g6,g7,g8⟩:=xr gL;have rL:=Fm.o.rc;obtain ⟨r0,r1,r2,r3,r4,r5,r6⟩:=se rL;clear gL rL;have SB:=aa (yQ (ok:=ok) g a r W1 (HG.o.mv (Mv.of Tm.o)) HI.o SA.o (MD.o.below Tm.o));go_wp2_with fail;clear g0 g1 g2 g3 g4 g5 g6 g7 g8 r0 r1 r2 r3 r4 r5 r6;refine SB.o.mono ?_;clear SB;rintro e w2 ⟨rfl,hb2⟩;have cm:=Zbl Tm hb2;have aq6:=aa (Fm.o.below hb2);clear hb2 Tm Fm;by_cases hp:kP g r=0
 ·have qu:(kP g r != 0)=false:=by simpa using hp
  have HP:=aa hp;clear hp;have DG:=aa (Fb HI.o (D6 HP.o).1);have SC:=SA.o.n;have rL:=aq6.o.rc;obtain ⟨r0,r1,r2,r3,r4,r5,r6⟩:=se rL;clear rL;have hA:=ae w2 (.cells #[.int .i64 r.Gi,.int .i64 r.Gh,.int .i64 r.Gc,.int .i64 r.Gg,.string r.tag,.string r.near,.string r.sep,.slice none 0 0,.slice none 0 0] 77);have Qv:=aa (b9 w2 (.cells #[.int .i64 r.Gi,.int .i64 r.Gh,.int .i64 r.Gc,.int .i64 r.Gg,.string r.tag,.string r.near,.string r.sep,.slice none 0 0,.slice none 0 0] 77));have cJ:=Zbl cm hA;have C6:=aa (aq6.o.below hA);clear hA aq6;go_upto_region 5 with (fail);clear r0 r1 r2 r3 r4 r5 r6 qu;generalize hW3:World.alloc w2 _=W3 at *;generalize Y0:w2.heap.size=Bj at *;clear hW3;have hwj:w.heap.size<=Bj:=by rw [<- Y0];exact cm.o.size
  clear Y0 cm;have r5:=C6.o.rc 5 _ rfl;have SD:=aq Qv.o;have hne1:Bg≠Bj:=fun e=>by have:=C6.o.g;rw [e,Qv.o] at this;injection this with this;injection this with _ this _;cases this
  have hne2:Br≠Bj:=fun e=>by have:=C6.o.r;rw [e,Qv.o] at this;injection this with this;injection this with _ this _;cases this
  have Ns:Hid (gF g r=if r.near.toList.isEmpty then [] else sP g r.near):=aa rfl;have ac7:(gF g r).length<=8:=cA (AA g r) DG.o.dl;go_upto_if 28 with (fail)
  go_cut [7] (fun v wc=>v=.pointer (some Bj)/\∃ (np:Option Addr) (nc:Nat),wc.heap[Bj]?=some (.cells #[.int .i64 r.Gi,.int .i64 r.Gh,.int .i64 r.Gc,.int .i64 r.Gg,.string r.tag,.string r.near,.string r.sep,.slice np (gF g r).length nc,.slice none 0 0] 77 (0,0))/\ck aF 1 (fun b=>b≠Bj) wc [.slice np (gF g r).length nc] (gF g r)/\cR (fun b=>b=Bj) W3 wc)
  case first =>
   cases hne:r.near.toList.isEmpty with
   | true =>
    rw [hne,aw rfl] at Ns;go_wp2;go_meet;exact ⟨rfl,none,0,by rw [Ns.o];exact Qv.o,by rw [Ns.o];exact ck.nil,cR.refl _ _⟩
   | false =>
    rw [hne,bh TcD] at Ns;have gL:=C6.o.gc;obtain ⟨g0,g1,g2,g3,g4,g5,g6,g7,g8⟩:=xr gL;clear gL;have Y1:=aa (Cf (ok:=ok) g a r.near W3 ((HG.o.mv (Mv.of cJ.o)).F9) ((HG.o.mv (Mv.of cJ.o)).Gb) DG.o.nd (by unfold maxLen;exact SC));go_wp2_with fail;clear g0 g1 g2 g3 g4 g5 g6 g7 g8;refine Y1.o.mono ?_;clear Y1;rintro e w4 ⟨nv,rfl,how,hb4⟩;have kf:ck aF 1 (fun b=>b≠Bj) w4 [nv] (sP g r.near):=how.rd fun b e=>by
     have:=(fh how b e).1;show b≠Bj;omega
    have SE:=(hb4.block Bj SD).trans Qv.o;obtain ⟨np,nc,rfl,ac8,ac9⟩:=kf.cap;have B2:=aa kf;clear kf how;have eI:=aa hb4;clear hb4;have PI:=aa SE;clear SE;have jf:w4.frozen? (Tac Bj 7)=false:=by simp [World.frozen?,PI.o]
    have j7:=cr PI.o 7 _ rfl;go_wp2;go_meet;have gO:=block_setCell (i:=7) (.slice np (sP g r.near).length nc) PI.o;refine ⟨rfl,np,nc,by rw [Ns.o];exact gO,by rw [Ns.o];exact (ck.moves aF.moves).mv ⟨TcR,fun b hb ho=>⟨ho,bw _ _ _ _ ho⟩⟩ B2.o,cR.setCell (F:=fun b=>b=Bj) (p:=⟨Bj,7,none⟩) (cR.of_below eI.o) (.inl rfl) _⟩
  case rest =>
   obtain ⟨rfl,np,nc,SF,Y2,Gk⟩:=hcut;have Y3:Hid (Below w.heap.size w wc):=aa (cJ.o.trans (Gk.below cJ.o.size (fun b e=>by omega)));have at0:Hid (jF wc Bg Br g a r):=aa ⟨(Gk.block _ (aq C6.o.g) hne1).trans C6.o.g,(Gk.block _ (aq C6.o.r) hne2).trans C6.o.r⟩;have Uu:=aa SF;clear SF;have WO:=aa Y2;clear Y2;have ad1:=aq Uu.o;clear Gk cJ Qv C6 r5 SD Ns;generalize zr:gF g r=nl at *;have WQ:=aa zr;clear zr;have j7:=cr Uu.o 7 _ rfl;go_upto_region 8 with (fail);clear j7;have hgd:=at0.o.g;have WR:=Y3.o.size;go_loopw [37] (fun i wr=>∃ k:Nat,k<=nl.length/\i=.int .i64 k/\cR (fun b=>b=Bj) wc wr/\∃ jv,dF wr wc.heap.size jv (kR g (nl.take k))/\wr.heap[Bj]?=some (.cells #[.int .i64 r.Gi,.int .i64 r.Gh,.int .i64 r.Gc,.int .i64 r.Gg,.string r.tag,.string r.near,.string r.sep,.slice np nl.length nc,jv] 77 (0,0))) (fun i _=>nl.length - (intOf i).toNat)
   exact ⟨0,cg _,rfl,cR.refl _ _,.slice none 0 0,dF.nil _ _,Uu.o⟩;obtain ⟨k,hk,rfl,Gk,jv,hown,SF⟩:=hrel;have sq:=aa Gk;clear Gk;have HOW:=aa hown;clear hown;have at1:=aa SF;clear SF;have HBR:Hid (Below w.heap.size w wr):=aa (Y3.o.trans (sq.o.below WR (fun b e=>by omega)));have PJ:Hid (jF wr Bg Br g a r):=aa ⟨(sq.o.block _ (aq at0.o.g) hne1).trans at0.o.g,(sq.o.block _ (aq at0.o.r) hne2).trans at0.o.r⟩;have LZ:=sq.o.size;by_cases hlt:k<nl.length
   ·obtain ⟨x,hx⟩:=aj nl k hlt;obtain ⟨b,off,us,rfl,gR,cX,ez,eE,hcv⟩:=WO.o.elem hx;obtain rfl:us=_:=eE;have q0:=(sq.o.cell (p:=⟨b,off+k*1+0,none⟩) cX gR).trans (hcv 0 _ rfl);rw [fp,fg] at q0;have HTS:=aa (yO g hx);have nt:=tQ DG.o.dt (nl.take k);rw [ey] at nt;clear hx hcv ez;have gL:=PJ.o.gc;obtain ⟨g0,g1,g2,g3,g4,g5,g6,g7,g8⟩:=xr gL;clear gL;have Y4:=aa (nZ (ok:=fun b=>ok b/\b<w.heap.size) g a x wr ((HG.o.mv (ok':=fun b=>ok b/\b<w.heap.size) ⟨HBR.o.size,fun b hb ho=>⟨⟨ho,hb⟩,HBR.o.block b hb⟩⟩).Gb) (by have:=DG.o.dl;omega) (fun d hd=>by have:=DG.o.dt d hd;omega));go_wp2_with fail;clear g0 g1 g2 g3 g4 g5 g6 g7 g8 q0;refine Y4.o.mono ?_;clear Y4;rintro e w5 ⟨u,rfl,Qw,hb5⟩;have hdt:((bH g.Gb x).getD gT).tags.length<=8:=by
     cases hf:bH g.Gb x with
     | none=>simp [gT]
     | some d=>exact DG.o.dt d (eV hf)
    generalize (bH g.Gb x).isSome=isd at *;generalize hd:(bH g.Gb x).getD gT=d at *;clear hd;obtain ⟨tv,rfl,ew⟩:=Qw;obtain ⟨tp,tc,rfl,_,_⟩:=ew.cap;have hA:=ae w5 (.cells (Tah d tp tc) 51);have sX:=aa (b9 w5 (.cells (Tah d tp tc) 51));have hb6:=hb5.trans (hA.mono hb5.size);have Hx:Hid (ck aF 1 (fun _=>True) (w5.alloc (.cells (Tah d tp tc) 51)) [.slice tp d.tags.length tc] d.tags):=aa ((ck.moves aF.moves).mv ⟨hA.size,fun b hb _=>⟨trivial,hA.block b hb⟩⟩ ew);have Tq:=aa hb6;have HOW6:=aa (HOW.o.below hb6);have Nx:=aa ((hb6.block Bj (aq at1.o)).trans at1.o);clear hA hb5 hb6 ew HOW at1;go_upto_region 11 with (fail);generalize hW6:World.alloc w5 _=W6 at *;generalize hBd:w5.heap.size=Bd at *;clear hW6;have d6:=cr sX.o 6 _ rfl;have j8:=cr Nx.o 8 _ rfl;have hsz6:=Tq.o.size;go_wp2_with (at_builtin;refine mW (ok:=fun _=>True) rfl _ _ rfl wc.heap.size jv (kR g (nl.take k)) d.tags rfl ?c1 tp tc rfl ?c2 ?c3 ?c4 ?_)
    all_goals first | (case c1=>exact HOW6.o) | (case c2=>exact Hx.o) | (case c3=>omega) | (case c4=>omega) | skip
    intro v' w7 hown1 hb7 hg7;have SG:=(hg7.block Bj (aq Nx.o) (fun e=>HOW6.o.ne Nx.o TcF e.symm)).trans Nx.o;have Ny:=aa SG;clear SG;obtain ⟨pw,cw,rfl,_,_⟩:=(hown1.rd (ok:=fun _=>True) (fun _ _=>trivial)).cap;have HOW7:=aa hown1;clear hown1;have Qx:Hid (cR (fun b=>b=Bj) wc w7):=aa (sq.o.trans (cR.of_below (F:=fun _=>False) Tq.o) (fun _ f=>f.elim) |>.trans (G:=fun b=>wc.heap.size<=b) ⟨hb7.os,hb7.tape,hb7.output,hb7.size,fun b hb hn=>hb7.block b TcC⟩ (fun b e=>.inr e));have jf:w7.frozen? (Tac Bj 8)=false:=by simp [World.frozen?,Ny.o]
    have j8':w7.cell? (Tac Bj 8)=some jv:=by simp [World.cell?,Ny.o]
    clear hb7 hg7 d6 j8;go_wp2;go_roundw
    case rel =>
     refine ⟨k+1,TcC,TcG,Qx.o.setCell (.inl rfl) _,_,?_,block_setCell (i:=8) _ Ny.o⟩;rw [HTS.o];have h7:=HOW7.o.blk (w':=w7.setCell (Tac Bj 8) (.slice pw ((kR g (nl.take k)).length+d.tags.length) cw)) fun b e=>bw w7 ⟨Bj,8,none⟩ _ b (fun q=>HOW7.o.ne Ny.o TcF (e.trans (fj some q)));rw [cD] at h7;exact h7
    simp [intOf];omega
   obtain rfl:k=nl.length:=by omega
   rw [cI] at HOW;have nt:=tQ DG.o.dt nl;obtain ⟨jp,jc,rfl,_,_⟩:=(HOW.o.rd (ok:=fun _=>True) (fun _ _=>trivial)).cap;have Y5:=aa (HOW.o.rd (ok:=fun _=>True) (fun _ _=>trivial));have SH:Hid (ck aF 1 (fun _=>True) wr [.slice np nl.length nc] nl):=aa ((ck.moves aF.moves).mv ⟨sq.o.size,fun b hb ho=>⟨trivial,sq.o.block b hb ho⟩⟩ WO.o);generalize vt:kR g nl=jl at *;have HJL:=aa vt;clear vt;clear HOW sq WO Uu at0;have Y6:Hid (qd (wr.alloc (.cells #[.func (.func 28) #[] #[],.func (.func 29) #[] #[],.func (.func 30) #[] #[],.func (.func 31) #[] #[]] 81)) wr.heap.size):=aa (b9 wr _);have hA:=ae wr (.cells #[.func (.func 28) #[] #[],.func (.func 29) #[] #[],.func (.func 30) #[] #[],.func (.func 31) #[] #[]] 81);have Ix:=Zbl HBR hA;have L1:=aa (PJ.o.below hA);have SI:=aa ((hA.block Bj (aq at1.o)).trans at1.o);have WS:=aa (gI aF.moves Y5.o hA);have WT:=aa (gI aF.moves SH.o hA);clear hA HBR PJ at1 Y5 SH;go_upto_region 15 with (fail);generalize hW8:World.alloc wr _=W8 at *;generalize Uc:wr.heap.size=Bc at *;clear hW8;have g6:=L1.o.gc 6 _ rfl;go_upto_region 16 with (fail);clear g6;have Wt:Hid (ck aO 7 (fun b=>b<w.heap.size) W8 [.slice a.dp g.Gb.length a.dc] g.Gb):=aa ((HG.o.mv (ok':=fun b=>b<w.heap.size) ⟨Ix.o.size,fun b hb _=>⟨hb,Ix.o.block b hb⟩⟩).Gb);have Lm:Hid (dN (fun b=>b<w.heap.size) W8 g a):=aa (HG.o.mv (ok':=fun b=>b<w.heap.size) ⟨Ix.o.size,fun b hb _=>⟨hb,Ix.o.block b hb⟩⟩);have CD:=DG.o.dl;have hsz8:=Ix.o.size;generalize Wu:a.dp=dpx at *;generalize Wv:a.dc=dcx at *;clear Wu Wv;go_loopw [13,58] (fun ov i wr=>∃ m:Nat,m<=g.Gb.length/\i=.int .i64 m/\Below W8.heap.size W8 wr/\∃ xs,fH wr W8.heap.size ov xs/\xs.length=m/\tK g r xs) (fun _ i _=>g.Gb.length - (intOf i).toNat)
   exact ⟨0,cg _,rfl,bj _ _,[],fH.nil _ _,rfl,fun i d x _ h=>by cases h⟩;obtain ⟨m,hm,rfl,hB,xs,hown,vh,Uv⟩:=hrel;have HB:=aa hB;clear hB;have HOW:=aa hown;clear hown;have NZ:=aa Uv;clear Uv;have LZ:=HB.o.size;by_cases hlt:m<g.Gb.length
   ·obtain ⟨d,hd⟩:=aj g.Gb m hlt;obtain ⟨b,off,us,hsp,gR,cX,ez,eE,hcv⟩:=Wt.o.elem hd;obtain ⟨tv,rfl,ew⟩:=eE;obtain ⟨tp,tc,rfl,_,_⟩:=ew.cap;have cT:wr.heap[b]?=W8.heap[b]?:=HB.o.block b cX;have hdt:=DG.o.dt d (ct hd);have kj:=aa (DG.o.de d (ct hd));have WU:=aa (DG.o.df m d hd);have HD:=aa hd;clear hd;subst hsp;obtain ⟨q0,q1,q2,q3,q4,q5,q6⟩:=OD cT hcv;clear hcv ez cT;have hA:=ae wr (.cells (Tah d tp tc) 51);have sX:=aa (b9 wr (.cells (Tah d tp tc) 51));have hb9:=HB.o.trans (hA.mono HB.o.size);have J1:=aa hb9;have HOW9:=aa (HOW.o.below hA);have Hx:Hid (ck aF 1 (fun _=>True) (wr.alloc (.cells (Tah d tp tc) 51)) [.slice tp d.tags.length tc] d.tags):=aa ((ck.moves aF.moves).mv ⟨hb9.size,fun b hb _=>⟨trivial,hb9.block b hb⟩⟩ ew);have Y7:Hid (kF (wr.alloc (.cells (Tah d tp tc) 51)) Bj wr.heap.size r np jp nc jc nl jl d tp tc):=aa ⟨⟨(hb9.block Bj (aq SI.o)).trans SI.o,sX.o⟩,gI aF.moves WT.o hb9,gI aF.moves WS.o hb9,Hx.o⟩;have HCC:=aa (oD Y7.o ((hb9.block Bc (aq Y6.o)).trans Y6.o) TcC TcC TcC);have Kp:Hid (nD g r d=iD nl jl r d):=aa (by unfold nD;rw [WQ.o,HJL.o]);clear hA hb9 ew Hx Y7 HOW HB;go_upto_region 18 with (fail);clear q0 q1 q2 q3 q4 q5 q6;generalize hW9:World.alloc wr _=W9 at *;generalize hBd:wr.heap.size=Bd at *;clear hW9;go_wp2_with fail;refine HCC.o.mono ?_;clear HCC;rintro e w10 ⟨rfl,hb10⟩;have Ax:=Zbl J1 hb10;have HOW10:=aa (HOW9.o.below hb10);have ap6:=Zbk hb10 sX;have hsz10:=Ax.o.size;clear hb10 J1 HOW9 sX;cases Uw:iD nl jl r d with
    | false =>
     have Nv:=aa (zo (Kp.o.trans Uw));clear Uw;go_wp2_with (at_builtin;refine iA rfl _ _ rfl W8.heap.size _ xs (.slice none 0 0) [] rfl ?c1 ?c2 w10.heap.size 1 rfl ?c3 ?c4 ?c5 ?_)
     all_goals first | (case c1=>exact HOW10.o.below (ae _ _)) | (case c2=>exact bM.nil _ _) | (case c3=>exact aD rfl rfl) | (case c4=>omega) | (case c5=>simp;omega) | skip
     intro v' w11 hown1 hb11 _;have C7:=aa ((Ax.o.alloc hsz10 _).trans hb11);have HOW11:=aa hown1;clear hown1 hb11;go_wp2;go_roundw;exact ⟨m+1,TcC,TcG,C7.o,_,HOW11.o,by simp [vh],NZ.o.snoc Td4 Nv.o TcD rfl⟩;simp [intOf];omega
    | true =>
     have Qo:=aa (Kp.o.trans Uw);clear Uw;have L3:Hid (jF w10 Bg Br g a r):=aa ⟨(Ax.o.block _ (aq L1.o.g)).trans L1.o.g,(Ax.o.block _ (aq L1.o.r)).trans L1.o.r⟩;have gL:=L3.o.gc;obtain ⟨g0,g1,g2,g3,g4,g5,g6,g7,g8⟩:=xr gL;clear gL;have d0:=cr ap6.o 0 _ rfl;have hgr10:dN (fun b=>b<w.heap.size) w10 g a:=Lm.o.mv ⟨Ax.o.size,fun b hb ho=>⟨ho,Ax.o.block b hb⟩⟩;have SJ:=aa (Di (ok:=fun b=>b<w.heap.size) g.name g.id g.seq g.Gd g.next a.tp a.dp a.vp a.hp g.tags.length a.tc a.dc a.vc g.history.length a.hc g.Gb g.F9 d.name w10 hgr10.Gb TcC (fun D hD=>by have:=DG.o.dt D hD;omega) (fun D hD=>by have:=DG.o.de D hD;omega) hgr10.F9 (by have:=DG.o.vl;omega) DG.o.tm (fun p hp=>by have:=DG.o.ps p hp;omega) (by have:=DG.o.pn;omega));clear hgr10;go_wp2_with fail;clear g0 g1 g2 g3 g4 g5 g6 g7 g8 d0;refine SJ.o.mono ?_;clear SJ;intro e w11 hf;unfold zR at hf;rw [WU.o] at hf;obtain ⟨fv,x,rfl,SK,hfn,SM,ML,hb11⟩:=hf;have CM:=aa (SK.mono (B':=W8.heap.size) hsz10);clear SK;have HFN:Hid (iE x (xy g d)):=aa hfn;clear hfn;have Ux:=aa SM;clear SM;have hpn:=DG.o.pn;have PK:x.length<=30000:=by omega
     clear ML hpn;have C7:=aa (Ax.o.trans (hb11.mono hsz10));have HOW11:=aa (HOW10.o.below hb11);have Om:=aa (L3.o.below hb11);have SN:=Zbk hb11 ap6;have hsz11:=C7.o.size;clear hb11 Ax HOW10 L3 ap6;go_upto_region 23 with (fail);have rL:=Om.o.rc;obtain ⟨r0,r1,r2,r3,r4,r5,r6⟩:=se rL;clear rL;have N8:Hid (uM r=(r.Gg == 1&&!r.near.toList.isEmpty)):=aa rfl;have key:(r.Gg == 1)=false\/((r.Gg == 1)=true/\r.near.toList.isEmpty=true)\/((r.Gg == 1)=true/\r.near.toList.isEmpty=false):=by
      cases (r.Gg == 1) <;> cases r.near.toList.isEmpty <;> simp
     rcases key with h1 | ⟨h1,h2⟩ | ⟨h1,h2⟩
     ·rw [h1] at N8;have Oe:=aa (tq Qo.o N8.o HFN.o);obtain ⟨pf,nf,cf,rfl⟩:=CM.o.slice;go_wp2_with (at_builtin;refine iA rfl _ _ rfl W8.heap.size _ xs (.slice pf nf cf) x rfl ?c1 ?c2 w11.heap.size 1 rfl ?c3 ?c4 ?c5 ?_)
      all_goals first | (case c1=>exact HOW11.o.below (ae _ _)) | (case c2=>exact CM.o.below (ae _ _)) | (case c3=>exact aD rfl rfl) | (case c4=>omega) | (case c5=>simp;omega) | skip
      intro v' w12 hown1 hb12 _;have at5:=aa ((C7.o.alloc hsz11 _).trans hb12);have HOW12:=aa hown1;clear hown1 hb12;go_wp2;go_roundw;exact ⟨m+1,TcC,TcG,at5.o,_,HOW12.o,by simp [vh],NZ.o.snoc Td4 Oe.o TcC Ux.o⟩;simp [intOf];omega
     ·rw [h1,h2] at N8;have Oe:=aa (tq Qo.o N8.o HFN.o);obtain ⟨pf,nf,cf,rfl⟩:=CM.o.slice;go_wp2_with (at_builtin;refine iA rfl _ _ rfl W8.heap.size _ xs (.slice pf nf cf) x rfl ?e1 ?e2 w11.heap.size 1 rfl ?e3 ?e4 ?e5 ?_)
      all_goals first | (case e1=>exact HOW11.o.below (ae _ _)) | (case e2=>exact CM.o.below (ae _ _)) | (case e3=>exact aD rfl rfl) | (case e4=>omega) | (case e5=>simp;omega) | skip
      intro v' w12 hown1 hb12 _;have at5:=aa ((C7.o.alloc hsz11 _).trans hb12);have HOW12:=aa hown1;clear hown1 hb12;go_wp2;go_roundw;exact ⟨m+1,TcC,TcG,at5.o,_,HOW12.o,by simp [vh],NZ.o.snoc Td4 Oe.o TcC Ux.o⟩;simp [intOf];omega
     rw [h1,h2] at N8;have gL:=Om.o.gc;obtain ⟨g0,g1,g2,g3,g4,g5,g6,g7,g8⟩:=xr gL;clear gL;have d0:=cr SN.o 0 _ rfl;have qu:∀ p∈x,0<=p.1/\1<=p.2/\p.1+p.2<=1073741824:=fun p hp=>by
      have c:=HFN.o.1.1 p hp;have c1:=((HFN.o.2 p.1).1 ⟨p,hp,TcC,TcC⟩).1;have c2:=((HFN.o.2 (p.1+p.2 - 1)).1 ⟨p,hp,TcC,TcC⟩).1;have:=kj.o;omega
     have PH:Hid ((jE g r.near).length<=10):=aa (by
      refine cA (Bu (m:=6) ?_) TcC;cases hf:aM g.F9 r.near with
      | none=>intro s hs;simp [eY] at hs
      | some v=>exact fun s hs=>DG.o.a6 v (eV hf) s hs)
     have TM:=aa (yI (ok:=fun b=>b<w.heap.size) g a r.near d.name x fv w11 ((Lm.o.mv (ok':=fun b=>b<w.heap.size) ⟨C7.o.size,fun b hb ho=>⟨ho,C7.o.block b hb⟩⟩).F9) DG.o.nd.us.sz DG.o.tm DG.o.st CM.o.rd qu PK PH.o);clear qu;go_wp2_with fail;clear g0 g1 g2 g3 g4 g5 g6 g7 g8 d0 r0 r1 r2 r3 r4 r5 r6;refine TM.o.mono ?_;clear TM;rintro e w12 ⟨yv,y,rfl,SP,WV,Nz,hb12⟩;have Y8:=aa (SP.mono (B':=W8.heap.size) hsz11);clear SP;have Oe:=aa (yE Qo.o N8.o HFN.o WV);have HYV:Hid (dI y=true):=aa (jC WV (xS fun p hp=>by
      have c:=HFN.o.1.1 p hp;have c1:=((HFN.o.2 p.1).1 ⟨p,hp,TcC,TcC⟩).1;have c2:=((HFN.o.2 (p.1+p.2 - 1)).1 ⟨p,hp,TcC,TcC⟩).1;have:=kj.o;omega))
     have at5:=aa (C7.o.trans (hb12.mono hsz11));have HOW12:=aa (HOW11.o.below hb12);have hsz12:=at5.o.size;clear hb12 WV;obtain ⟨pf,nf,cf,rfl⟩:=Y8.o.slice;go_wp2_with (at_builtin;refine iA rfl _ _ rfl W8.heap.size _ xs (.slice pf nf cf) y rfl ?f1 ?f2 w12.heap.size 1 rfl ?f3 ?f4 ?f5 ?_)
     all_goals first | (case f1=>exact HOW12.o.below (ae _ _)) | (case f2=>exact Y8.o.below (ae _ _)) | (case f3=>exact aD rfl rfl) | (case f4=>omega) | (case f5=>simp;omega) | skip
     intro v' w13 hown1 hb13 _;have WX:=aa ((at5.o.alloc hsz12 _).trans hb13);have HOW13:=aa hown1;clear hown1 hb13;go_wp2;go_roundw;exact ⟨m+1,TcC,TcG,WX.o,_,HOW13.o,by simp [vh],NZ.o.snoc Td4 Oe.o TcC HYV.o⟩;simp [intOf];omega
   obtain rfl:m=g.Gb.length:=by omega
   have B3:=aa (Ix.o.trans (HB.o.mono hsz8));go_wp2;go_ret2;exact ⟨B3.o,.inr ⟨HP.o,_,xs,rfl,HOW.o.mono hsz8,vh,NZ.o⟩⟩
 have qu:(kP g r != 0)=true:=by simpa using hp
 have HP:=aa hp;clear hp;go_wp2;go_ret2;exact ⟨cm.o,.inl ⟨HP.o,rfl⟩⟩
theorem lZ {w:World}{o:Obj}(h:k=w.heap.size):(w.alloc o).heap[k]?=some o:=by
 subst h;exact b9 w o
end Go.Proofs.YtaagglbgohjldaaGreatDoor
