/- Lemmas: PolAc. -/
import Derived.Test.YtjdfihglehfelaaGreatDoorPk30
set_option maxRecDepth 100000
set_option maxHeartbeats 32000000
set_option linter.all false
namespace Go.Proofs.YtjdfihglehfelaaGreatDoor
open Go.RowKit Go.Maps Go.Shelf
theorem yQ {ok:Nat→Prop}(g:af)(a:bN)(r:aY)(w:World)(hg:dN ok w g a)(hi:GIn g)(hr:dK r)(hS:Sfx w) :
  Calls Tryz.prog 47 #[.agg #[.string g.name,.int .u64 g.id,.int .i64 g.seq,.int .i64 g.Gd,.int .i64 g.next,.slice a.tp g.tags.length a.tc,.slice a.dp g.Gb.length a.dc,.slice a.vp g.F9.length a.vc,.slice a.hp g.history.length a.hc],.agg #[.int .i64 r.Gi,.int .i64 r.Gh,.int .i64 r.Gc,.int .i64 r.Gg,.string r.tag,.string r.near,.string r.sep]] w (FY (kP g r) w):=by
 have HG:=aa hg;clear hg;have HI:=aa hi;clear hi;have HSF:=aa hS;clear hS;obtain ⟨hl,hs,he,hp,ht,hn,hq⟩:=hr;have hA1:=ae w (.cells #[.string g.name,.int .u64 g.id,.int .i64 g.seq,.int .i64 g.Gd,.int .i64 g.next,.slice a.tp g.tags.length a.tc,.slice a.dp g.Gb.length a.dc,.slice a.vp g.F9.length a.vc,.slice a.hp g.history.length a.hc] 31);have hA2:=ae (w.alloc (.cells #[.string g.name,.int .u64 g.id,.int .i64 g.seq,.int .i64 g.Gd,.int .i64 g.next,.slice a.tp g.tags.length a.tc,.slice a.dp g.Gb.length a.dc,.slice a.vp g.F9.length a.vc,.slice a.hp g.history.length a.hc] 31)) (.cells #[.int .i64 r.Gi,.int .i64 r.Gh,.int .i64 r.Gc,.int .i64 r.Gg,.string r.tag,.string r.near,.string r.sep] 35);have hN1:=heap_alloc_new w (.cells #[.string g.name,.int .u64 g.id,.int .i64 g.seq,.int .i64 g.Gd,.int .i64 g.next,.slice a.tp g.tags.length a.tc,.slice a.dp g.Gb.length a.dc,.slice a.vp g.F9.length a.vc,.slice a.hp g.history.length a.hc] 31);have hN2:=heap_alloc_new (w.alloc (.cells #[.string g.name,.int .u64 g.id,.int .i64 g.seq,.int .i64 g.Gd,.int .i64 g.next,.slice a.tp g.tags.length a.tc,.slice a.dp g.Gb.length a.dc,.slice a.vp g.F9.length a.vc,.slice a.hp g.history.length a.hc] 31)) (.cells #[.int .i64 r.Gi,.int .i64 r.Gh,.int .i64 r.Gc,.int .i64 r.Gg,.string r.tag,.string r.near,.string r.sep] 35);rw [World.size_alloc] at hN2;have HAT:Hid (jF ((w.alloc (.cells #[.string g.name,.int .u64 g.id,.int .i64 g.seq,.int .i64 g.Gd,.int .i64 g.next,.slice a.tp g.tags.length a.tc,.slice a.dp g.Gb.length a.dc,.slice a.vp g.F9.length a.vc,.slice a.hp g.history.length a.hc] 31)).alloc (.cells #[.int .i64 r.Gi,.int .i64 r.Gh,.int .i64 r.Gc,.int .i64 r.Gg,.string r.tag,.string r.near,.string r.sep] 35)) w.heap.size (w.heap.size+1) g a r):=aa ⟨(hA2.block _ (lt_of_block hN1)).trans hN1,hN2⟩;have HB1:=aa (hA1.trans (hA2.mono hA1.size));clear hA1 hA2 hN1 hN2;go_enter Tryz.func47,Tryz.ntmps47
 go_upto_region 1 with (fail)
 generalize hW1:World.alloc (World.alloc w _) _=W1 at *;generalize hBg:w.heap.size=Bg at *;generalize hBr:Bg+1=Br at *;clear hW1;have HB1':Hid (Below w.heap.size w W1):=aa (by rw [hBg];exact HB1.out);clear HB1;have gL:=HAT.out.gc;have g0:=gL 0 _ rfl;have g1:=gL 1 _ rfl;have g2:=gL 2 _ rfl;have g3:=gL 3 _ rfl;have g4:=gL 4 _ rfl;have g5:=gL 5 _ rfl;have g6:=gL 6 _ rfl;have g7:=gL 7 _ rfl;have g8:=gL 8 _ rfl;clear gL
 go_wp2_with fail
 clear g0 g1 g2 g3 g4 g5 g6 g7 g8;refine (Bz (ok:=ok) g a W1 (HG.out.mv (Mv.of HB1'.out)) HI.out (HSF.out.below HB1'.out)).mono ?_;rintro e w2 ⟨rfl,hb2⟩;have HB2:=aa (HB1'.out.trans (hb2.mono HB1'.out.size));have HAT2:=aa (HAT.out.below hb2);clear hb2 HB1' HAT;have HPE:Hid (kP g r=if (pM g).2=0 then yZ g r else (pM g).2):=aa rfl;generalize hm:pM g=m at *;obtain ⟨p1,x1⟩:=m;have HM:=aa hm;clear hm
 by_cases hx:x1=0
 ·have hxb:(x1 != 0)=false:=by simpa using hx
  have HX:=aa hx;clear hx
  go_upto_region 4 with (fail)
  clear hxb;rw [if_pos HX.out] at HPE;have gL:=HAT2.out.gc;have g0:=gL 0 _ rfl;have g1:=gL 1 _ rfl;have g2:=gL 2 _ rfl;have g3:=gL 3 _ rfl;have g4:=gL 4 _ rfl;have g5:=gL 5 _ rfl;have g6:=gL 6 _ rfl;have g7:=gL 7 _ rfl;have g8:=gL 8 _ rfl;clear gL;have rL:=HAT2.out.rc;have r5:=rL 5 _ rfl;clear rL;have HCV:=aa (fA (ok:=fun b=>ok b∧b<w.heap.size) g a r.near w2 ((RdS.moves aN.moves).mv ⟨HB2.out.size,fun b hb ho=>⟨⟨ho,hb⟩,HB2.out.block b hb⟩⟩ (dN.F9 HG.out)) HI.out.sz.vl HI.out.sz.vz)
  go_wp2_with fail
  clear g0 g1 g2 g3 g4 g5 g6 g7 g8 r5;refine HCV.out.mono ?_;clear HCV;rintro e w3 ⟨u,rfl,hvv,hb3⟩;have HB3:=aa (HB2.out.trans (hb3.mono HB2.out.size));have HAT3:=aa (HAT2.out.below hb3);have HNB:Hid (xM g r=if r.near.toList.isEmpty then !clB r else (aM g.F9 r.near).isSome):=aa rfl;generalize (aM g.F9 r.near).isSome=isn at *;obtain ⟨tv,sv,rfl,htr,hsr⟩:=hvv;obtain ⟨tp,tc,rfl,_,_⟩:=htr.cap;obtain ⟨sp,sc,rfl,hsc1,hsc2⟩:=hsr.cap;clear htr hsr hb3 HB2 HAT2;generalize (aM g.F9 r.near).getD eY=v at *;have hA:=ae w3 (.cells #[.string v.name,.int .u64 v.id,.bool v.hidden,.bool v.ro,.slice tp v.tags.length tc,.slice sp v.Gf.length sc] 55);have HB4:=aa (HB3.out.trans (hA.mono HB3.out.size));have HAT4:=aa (HAT3.out.below hA);clear hA HB3 HAT3
  go_upto_region 5 with (fail)
  generalize hW4:World.alloc w3 _=W4 at *;clear hW4;have rL:=HAT4.out.rc;have r0:=rL 0 _ rfl;have r1:=rL 1 _ rfl;have r2:=rL 2 _ rfl;have r3:=rL 3 _ rfl;have r4:=rL 4 _ rfl;have r5:=rL 5 _ rfl;have r6:=rL 6 _ rfl;clear rL
  go_cut [9] (fun v wc=>v=.bool (clB r)∧wc=W4)
  case first =>
   cases h2:(r.Gg == 2) with
   | true =>
    go_wp2;go_meet;exact ⟨by simp [clB,h2],rfl⟩
   | false =>
    cases h3:(r.Gg == 3) with
    | true =>
     go_wp2;go_meet;exact ⟨by simp [clB,h3],rfl⟩
    | false =>
     go_wp2;go_meet;exact ⟨by simp [clB,h2,h3],rfl⟩
  case rest =>
   obtain ⟨rfl,rfl⟩:=hcut;generalize clB r=c at *;have HW:=aa uT;have HRE:Hid (yZ g r=if Dr r=false then 1 else if wiB r.Gg 5=false then 17 else if xM g r=false then 12 else if (eu r.tag&&eu r.sep)=false then 2 else 0):=aa rfl
   go_upto_region 7 with (fail)
   go_cut [34] (fun v wx=>v=.bool (!Dr r)∧wx=wc)
   case first =>
    have hc1:=uT r.Gi 6 wc;have hc2:=uT r.Gh 6 wc;have hc3:=uT r.Gc 4096 wc;have HRB:Hid (Dr r=(wiB r.Gi 6&&wiB r.Gh 6&&decide (r.Gi*r.Gh≤6)&&wiB r.Gc 4096)):=aa rfl;cases h1:wiB r.Gi 6 with
    | false =>
     rw [h1] at hc1 HRB;have H1:=aa h1;clear h1
     go_wp2_with (first | ((with_reducible refine hc1.mono ?_);rintro e w5 ⟨rfl,rfl⟩) | ((with_reducible refine hc2.mono ?_);rintro e w5 ⟨rfl,rfl⟩) | ((with_reducible refine hc3.mono ?_);rintro e w5 ⟨rfl,rfl⟩))
     go_meet;exact ⟨by rw [HRB.out];simp,rfl⟩
    | true =>
     have hb1:1≤r.Gi∧r.Gi≤6:=by simpa [wiB] using h1
     rw [h1] at hc1 HRB;have H1:=aa h1;clear h1;cases h2:wiB r.Gh 6 with
     | false =>
      rw [h2] at hc2 HRB;have H2:=aa h2;clear h2
      go_wp2_with (first | ((with_reducible refine hc1.mono ?_);rintro e w5 ⟨rfl,rfl⟩) | ((with_reducible refine hc2.mono ?_);rintro e w5 ⟨rfl,rfl⟩) | ((with_reducible refine hc3.mono ?_);rintro e w5 ⟨rfl,rfl⟩))
      go_meet;exact ⟨by rw [HRB.out];simp,rfl⟩
     | true =>
      have hb2:1≤r.Gh∧r.Gh≤6:=by simpa [wiB] using h2
      rw [h2] at hc2 HRB;have H2:=aa h2;clear h2;have hm1:0≤r.Gi*r.Gh:=Int.mul_nonneg (by omega) (by omega);have hm2:r.Gi*r.Gh≤6*6:=Int.mul_le_mul hb1.2 hb2.2 (by omega) (by omega);have hwr:IntKind.i64.wrap (r.Gi*r.Gh)=r.Gi*r.Gh:=IntWalk.i64_in _ (by omega);have HM1:=aa hm1;clear hm1;have HM2:=aa hm2;clear hm2
      by_cases h3:r.Gi*r.Gh≤6
      ·have hp:decide (6<r.Gi*r.Gh)=false:=decide_eq_false (by omega)
       rw [decide_eq_true h3] at HRB;have H3:=aa h3;clear h3;cases h4:wiB r.Gc 4096 with
       | false =>
        rw [h4] at hc3 HRB;have H4:=aa h4;clear h4
        go_wp2_with (first | ((with_reducible refine hc1.mono ?_);rintro e w5 ⟨rfl,rfl⟩) | ((with_reducible refine hc2.mono ?_);rintro e w5 ⟨rfl,rfl⟩) | ((with_reducible refine hc3.mono ?_);rintro e w5 ⟨rfl,rfl⟩))
        go_meet;exact ⟨by rw [HRB.out];simp,rfl⟩
       | true =>
        rw [h4] at hc3 HRB;have H4:=aa h4;clear h4
        go_wp2_with (first | ((with_reducible refine hc1.mono ?_);rintro e w5 ⟨rfl,rfl⟩) | ((with_reducible refine hc2.mono ?_);rintro e w5 ⟨rfl,rfl⟩) | ((with_reducible refine hc3.mono ?_);rintro e w5 ⟨rfl,rfl⟩))
        go_meet;exact ⟨by rw [HRB.out];simp,rfl⟩
      ·have hp:decide (6<r.Gi*r.Gh)=true:=decide_eq_true (by omega)
       rw [decide_eq_false h3] at HRB;have H3:=aa h3;clear h3
       go_wp2_with (first | ((with_reducible refine hc1.mono ?_);rintro e w5 ⟨rfl,rfl⟩) | ((with_reducible refine hc2.mono ?_);rintro e w5 ⟨rfl,rfl⟩) | ((with_reducible refine hc3.mono ?_);rintro e w5 ⟨rfl,rfl⟩))
       go_meet;exact ⟨by rw [HRB.out];simp,rfl⟩
   case rest =>
    obtain ⟨rfl,rfl⟩:=hcut;have HB5:=aa HB4.out;cases hrb:Dr r with
    | false =>
     rw [hrb,if_pos rfl] at HRE;go_wp2;go_ret;exact ⟨by rw [HPE.out,HRE.out];rfl,HB4.out⟩
    | true =>
     rw [hrb,if_neg (by simp)] at HRE;have HRB:=aa hrb;clear hrb
     by_cases hp1:1≤r.Gg
     ·by_cases hp5:r.Gg≤5
      ·have hw5:wiB r.Gg 5=true:=by simp [wiB,hp1,hp5]
       rw [hw5,if_neg (by simp)] at HRE;have HW5:=aa hw5;clear hw5;have hq1:decide (r.Gg<1)=false:=decide_eq_false (by omega);have hq5:decide (5<r.Gg)=false:=decide_eq_false (by omega)
       go_upto_region 11 with (fail)
       go_cut [71] (fun v wx=>v=.bool (!xM g r)∧wx=wc)
       case first =>
        cases hne:r.near.toList.isEmpty with
        | true =>
         rw [hne,if_pos rfl] at HNB;cases c with
         | true =>
          go_wp2;go_meet;exact ⟨by rw [HNB.out];rfl,rfl⟩
         | false =>
          go_wp2;go_meet;exact ⟨by rw [HNB.out];rfl,rfl⟩
        | false =>
         rw [hne,if_neg (by simp)] at HNB;cases isn with
         | true =>
          go_wp2;go_meet;exact ⟨by rw [HNB.out];rfl,rfl⟩
         | false =>
          go_wp2;go_meet;exact ⟨by rw [HNB.out];rfl,rfl⟩
       case rest =>
        obtain ⟨rfl,rfl⟩:=hcut;cases hnb:xM g r with
        | false =>
         rw [hnb,if_pos rfl] at HRE;have HN:=aa hnb;clear hnb;go_wp2;go_ret;exact ⟨by rw [HPE.out,HRE.out];rfl,HB4.out⟩
        | true =>
         rw [hnb,if_neg (by simp)] at HRE;have HN:=aa hnb;clear hnb
         go_upto_region 13 with (fail)
         go_cut [87] (fun v wx=>v=.bool (!(eu r.tag&&eu r.sep))∧Below wc.heap.size wc wx)
         case first =>
          have ht1:=ry r.tag wc ht;cases hte:r.tag.toList.isEmpty with
          | true =>
           have HT:Hid (eu r.tag=true):=aa (by simp [eu,hte]);have hq1:=ry r.sep wc hq;cases hqe:r.sep.toList.isEmpty with
           | true =>
            have HQ:Hid (eu r.sep=true):=aa (by simp [eu,hqe]);go_wp2;go_meet;exact ⟨by rw [HT.out,HQ.out];rfl,Below.refl _ _⟩
           | false =>
            have HQ:Hid (eu r.sep=mr r.sep):=aa (by simp [eu,hqe]);cases htb:mr r.sep with
            | true =>
             rw [htb] at hq1 HQ;have HTB:=aa htb;clear htb
             go_wp2_with ((with_reducible refine hq1.mono ?_);rintro e w5 ⟨rfl,hb5⟩)
             go_meet;exact ⟨by rw [HT.out,HQ.out];rfl,hb5⟩
            | false =>
             rw [htb] at hq1 HQ;have HTB:=aa htb;clear htb
             go_wp2_with ((with_reducible refine hq1.mono ?_);rintro e w5 ⟨rfl,hb5⟩)
             go_meet;exact ⟨by rw [HT.out,HQ.out];rfl,hb5⟩
          | false =>
           have HT:Hid (eu r.tag=mr r.tag):=aa (by simp [eu,hte]);cases htb:mr r.tag with
           | false =>
            rw [htb] at ht1 HT;have HTB:=aa htb;clear htb
            go_wp2_with ((with_reducible refine ht1.mono ?_);rintro e w5 ⟨rfl,hb5⟩)
            go_meet;exact ⟨by rw [HT.out];rfl,hb5⟩
           | true =>
            rw [htb] at ht1 HT;have HTB:=aa htb;clear htb
            go_wp2_with fail
            refine ht1.mono ?_;rintro e w5 ⟨rfl,hb5⟩;have HB5:=aa hb5;have rL:=(HAT4.out.below hb5).rc;clear r0 r1 r2 r3 r4 r5 r6 hb5;have r6:=rL 6 _ rfl;clear rL;have HQ1:=aa (ry r.sep w5 hq);clear ht1;cases hqe:r.sep.toList.isEmpty with
            | true =>
             have HQ:Hid (eu r.sep=true):=aa (by simp [eu,hqe]);go_wp2;go_meet;exact ⟨by rw [HT.out,HQ.out];rfl,HB5.out⟩
            | false =>
             have HQ:Hid (eu r.sep=mr r.sep):=aa (by simp [eu,hqe]);cases htb:mr r.sep with
             | true =>
              rw [htb] at HQ1 HQ;have HTB2:=aa htb;clear htb
              go_wp2_with fail
              refine HQ1.out.mono ?_;rintro e w6 ⟨rfl,hb6⟩;have HB6:=aa (HB5.out.trans (hb6.mono HB5.out.size));clear hb6 r6;go_wp2;go_meet;exact ⟨by rw [HT.out,HQ.out];rfl,HB6.out⟩
             | false =>
              rw [htb] at HQ1 HQ;have HTB2:=aa htb;clear htb
              go_wp2_with fail
              refine HQ1.out.mono ?_;rintro e w6 ⟨rfl,hb6⟩;have HB6:=aa (HB5.out.trans (hb6.mono HB5.out.size));clear hb6 r6;go_wp2;go_meet;exact ⟨by rw [HT.out,HQ.out];rfl,HB6.out⟩
         case rest =>
          obtain ⟨rfl,hbx⟩:=hcut;have HBF:=aa (HB4.out.trans (hbx.mono HB4.out.size));clear hbx;cases hok:(eu r.tag&&eu r.sep) with
          | true =>
           rw [hok,if_neg (by simp)] at HRE;have HOK:=aa hok;clear hok;go_wp2;go_ret;exact ⟨by rw [HPE.out,HRE.out];rfl,HBF.out⟩
          | false =>
           rw [hok,if_pos rfl] at HRE;have HOK:=aa hok;clear hok;go_wp2;go_ret;exact ⟨by rw [HPE.out,HRE.out];rfl,HBF.out⟩
      ·have hw5:wiB r.Gg 5=false:=by simp [wiB,hp5]
       rw [hw5,if_pos rfl] at HRE;have HW5:=aa hw5;clear hw5;have hq1:decide (r.Gg<1)=false:=decide_eq_false (by omega);have hq5:decide (5<r.Gg)=true:=decide_eq_true (by omega);go_wp2;go_ret;exact ⟨by rw [HPE.out,HRE.out];rfl,HB4.out⟩
     ·have hw5:wiB r.Gg 5=false:=by simp [wiB,hp1]
      rw [hw5,if_pos rfl] at HRE;have HW5:=aa hw5;clear hw5;have hq1:decide (r.Gg<1)=true:=decide_eq_true (by omega);go_wp2;go_ret;exact ⟨by rw [HPE.out,HRE.out];rfl,HB4.out⟩
 ·have hxb:(x1 != 0)=true:=by simpa using hx
  have HX:=aa hx;clear hx;go_wp2;go_ret;exact ⟨by rw [HPE.out,if_neg HX.out];rfl,HB2.out⟩
end Go.Proofs.YtjdfihglehfelaaGreatDoor
