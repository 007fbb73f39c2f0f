/- Lemmas: PlfB, LaidS. -/
import Derived.Test.YtjdfihglehfelaaGreatDoorPf46
import Derived.Test.YtjdfihglehfelaaGreatDoorPf50
import Derived.LaidMore
import Derived.Stop.Joined
set_option maxRecDepth 100000
set_option maxHeartbeats 32000000
set_option linter.all false
namespace Go.Proofs.YtjdfihglehfelaaGreatDoor
open Go.Proofs.Tryz
open Go.RowKit Go.Maps Go.Shelf
theorem Hd:∀ (x:List (Int × Int)),(∀ p∈x,1<=p.2)->(x.length:Int)<=G5 x
 | [],_=>by simp [G5]
 | p :: x,h=>by
  have h1:=Hd x (fun q hq=>h q (kn _ hq));have h2:=h p cG;simp only [G5,iu,List.sum_cons,cS] at h1 ⊢;omega
theorem G9 {vs:List ay}(h:qx vs):∀ p∈pieces vs,0<=p.len/\p.len<=1000000:=fun p hp=>by
 obtain ⟨v,hv,hp⟩:=List.mem_flatMap.1 hp;obtain ⟨s,hs,hp⟩:=List.mem_flatMap.1 hp;obtain ⟨_,a,ha,rfl⟩:=gK hp;have h1:=((h v hv).2 s hs).1;have h2:=zV (k:=s.kind) (n:=s.Ga.length) h1.1;exact ⟨h2.1,Int.le_trans h2.2 h1.2⟩
theorem dK.setPol {r:aY}(h:dK r):dK (r.pol 4):=⟨h.l,h.s,h.e,⟨by show (-9223372036854775808:Int)<=4;decide,by show (4:Int)<=9223372036854775807;decide⟩,h.t,h.n,h.q⟩
theorem GJ (l:List Int)(v:Value)(w:World)(hr:Hs w v l)(hl:∀ x∈l,-9223372036854775808<=x/\x<=9223372036854775807)(hS:AW w) :
  Calls prog 5 #[v] w fun e w'=>e=.returned (.bool true)/\Below w.heap.size w w':=by
 have HR:=aa hr;clear hr;have MD:=aa hS;clear hS;go_enter func5,ntmps5
 go_wp2_with fail
 refine (ED l v w HR.o hl).mono ?_;rintro e w1 ⟨rfl,hs1,hz1,hb1⟩
 go_wp2_with fail
 refine (Ca w.heap.size w1 hs1).mono ?_;intro e w2 hG;obtain ⟨g,a,rfl,hgr,MC,hs2,hb2,hz2⟩:=hG.open2 hb1 hz1;have Tt:=aa (MD.o.below hb2);clear hs1 hz1 hb1 hG;have XT:=aa MC.gin;have Nj:Hid (g.Gb.length<=4/\g.F9.length<=44):=aa ⟨MC.tame.dl,MC.tame.vl⟩;have MI:=aa MC.tame;have RL:Hid (∀ p∈pieces g.F9,0<=p.len/\p.len<=1000000):=aa (G9 MC.tame.tame);clear MC;have bA:=ae w2 (.cells #[.string g.name,.int .u64 g.id,.int .i64 g.seq,.int .i64 g.Gd,.int .i64 g.next,.slice a.tp g.tags.length a.tc,.slice a.dp g.Gb.length a.dc,.slice a.vp g.F9.length a.vc,.slice a.hp g.history.length a.hc] 31);have JW:=aa (b9 w2 (.cells #[.string g.name,.int .u64 g.id,.int .i64 g.seq,.int .i64 g.Gd,.int .i64 g.next,.slice a.tp g.tags.length a.tc,.slice a.dp g.Gb.length a.dc,.slice a.vp g.F9.length a.vc,.slice a.hp g.history.length a.hc] 31));have Lm:=aa (hgr.lt.keep (cR.bl bA));have JK:=aa (hs2.keep (w':=w2.alloc (.cells #[.string g.name,.int .u64 g.id,.int .i64 g.seq,.int .i64 g.Gd,.int .i64 g.next,.slice a.tp g.tags.length a.tc,.slice a.dp g.Gb.length a.dc,.slice a.vp g.F9.length a.vc,.slice a.hp g.history.length a.hc] 31)) fun i hi=>bA.block i (by omega));have cJ:=aa (hb2.trans (bA.mono hb2.size));have Tu:=aa (Tt.o.below bA);clear hgr hs2 hb2 bA Tt
 go_upto_region 3 with (fail)
 generalize hW3:World.alloc w2 _=W3 at *;generalize Ms:w2.heap.size=Bg at *;clear hW3 Ms
 have gL:=cr JW.o
 obtain ⟨g0,g1,g2,g3,g4,g5,g6,g7,g8⟩:=xr gL;clear gL;have CD:=Nj.o.1;have mb:=Nj.o.2;have SA:=aa (wX g a w.heap.size W3 ((ck.moves aN.moves).mv ⟨bk _,fun b _ hb=>⟨hb.1,rfl⟩⟩ Lm.o.F9) (by omega) (fun v hv=>(XT.o.tx.vol v hv).1) JK.o)
 go_wp2_with fail
 clear g0 g1 g2 g3 g4 g5 g6 g7 g8;refine SA.o.mono ?_;rintro e w4 ⟨r,rfl,Kg,hs4,hm4⟩;clear SA;have h0w:=MD.o.1;have hA:=ae w4 (.cells #[.int .i64 r.Gi,.int .i64 r.Gh,.int .i64 r.Gc,.int .i64 r.Gg,.string r.tag,.string r.near,.string r.sep] 35);have hN:=b9 w4 (.cells #[.int .i64 r.Gi,.int .i64 r.Gh,.int .i64 r.Gc,.int .i64 r.Gg,.string r.tag,.string r.near,.string r.sep] 35);have ye:Bg≠w.heap.size:=by omega
 have HST:Hid (iw w Bg w4.heap.size g a r (w4.alloc (.cells #[.int .i64 r.Gi,.int .i64 r.Gh,.int .i64 r.Gc,.int .i64 r.Gg,.string r.tag,.string r.near,.string r.sep] 35))):=aa
  ⟨hs4.keep fun i hi=>hA.block i (rr hi hs4.lt),(cJ.o.trans (hm4.below cJ.o.size (fun k e=>by omega))).trans (hA.mono (cA cJ.o.size hm4.size)),(Lm.o.keep hm4).keep (cR.bl hA),
   (hA.block _ (cC (aq JW.o) hm4.size)).trans ((hm4.block _ (aq JW.o) ye).trans JW.o),hN,Kg,(Tu.o.mod hm4 (by omega)).below hA⟩
 have hsz4:=hm4.size;have kq:Bg<w4.heap.size:=cC (aq JW.o) hm4.size;clear hA hN Kg hs4 hm4 JW Lm JK cJ Tu;unfold mO
 go_upto_region 4 with (fail)
 generalize hW5:World.alloc w4 _=W5 at *;generalize PF:w4.heap.size=Bq at *;clear hW5 PF;have ae7:Bg<Bq:=kq
 have hqb:w.heap.size<Bq:=by
  have:=HST.o.src.lt;have:=hsz4;omega
 have gL:=HST.o.gc;obtain ⟨g0,g1,g2,g3,g4,g5,g6,g7,g8⟩:=xr gL;have qL:=HST.o.qc;obtain ⟨q0,q1,q2,q3,q4,q5,q6⟩:=se qL;clear gL qL;have NY:=aa (jk g a r W5 HST.o.gr XT.o HST.o.rq HST.o.sf)
 go_wp2_with fail
 clear g0 g1 g2 g3 g4 g5 g6 g7 g8 q0 q1 q2 q3 q4 q5 q6;refine NY.o.mono ?_;clear NY;intro e w8 hp8;obtain ⟨xv,xs,rfl,OA,Zs,vh,hb8⟩:=hp8.form;clear hp8;have HS8:=aa (HST.o.below hb8);have PW:=aa OA;clear OA;have HXP:=aa Zs;clear Zs;have ae8:=aq HST.o.qb;have hsz7:=HST.o.bl.size;clear hb8 HST;have Nv:Hid (kP g r=0->kP g (r.pol 4)=0):=aa G7
 by_cases Mu:kP g r=0
 ·rw [Mu] at vh ⊢
  rw [aw rfl] at vh;have PX:=aa (Nv.o Mu);clear Mu Nv;have q3:w8.cell? ⟨Bq,3,none⟩=some (.int .i64 r.Gg):=HS8.o.qc 3 _ rfl;have qf:=HS8.o.qf
  go_upto_region 7 with (fail)
  have HS9:=aa (HS8.o.set (r.pol 4) 3 (.int .i64 4) rfl HS8.o.rq.setPol kq hqb);have Tv:=aa (PW.o.blk (w':=w8.setCell ⟨Bq,3,none⟩ (.int .i64 4)) fun k hk _=>bw _ _ _ _ (by show k≠Bq;omega))
  go_upto_region 8 with (fail)
  clear q3 qf HS8 PW;generalize World.setCell w8 _ _=W9 at *;have gL:=HS9.o.gc;obtain ⟨g0,g1,g2,g3,g4,g5,g6,g7,g8⟩:=xr gL;have qL:=HS9.o.qc;obtain ⟨q0,q1,q2,q3,q4,q5,q6⟩:=se qL;clear gL qL;have MU:=aa (jk g a (r.pol 4) W9 HS9.o.gr XT.o HS9.o.rq HS9.o.sf)
  go_wp2_with fail
  clear g0 g1 g2 g3 g4 g5 g6 g7 g8 q0 q1 q2 q3 q4 q5 q6;refine MU.o.mono ?_;clear MU;intro e w10 hp10;obtain ⟨yv,ys,rfl,SP,hyp,Nz,hb10⟩:=hp10.form;clear hp10;have HS10:=aa (HS9.o.below hb10);have Mj:=aa (Tv.o.below hb10);have Mk:=aa SP;clear SP;have HYP:=aa hyp;clear hyp;have hsz9:=HS9.o.bl.size;clear hb10 HS9 Tv;rw [aw PX.o] at Nz;rw [PX.o];clear PX;obtain ⟨px,cx,rfl,PY,Ma⟩:=Mj.o.cap;obtain ⟨py,cy,rfl,Tw,Tl⟩:=Mk.o.cap;have NA:=aa vh;have HYL:=aa Nz;rw [vh] at Mj PY ⊢;rw [Nz] at Mk Tw ⊢;clear vh Nz;have T8:((g.Gb.length:Int) != (g.Gb.length:Int))=false:=by simp
  have g6:=HS10.o.gc 6 _ rfl
  go_upto_region 12 with (fail)
  clear T8 g6
  go_loopw [10] (fun i wr=>∃ k:Nat,k<=g.Gb.length/\i=.int .i64 k/\Below w10.heap.size w10 wr) (fun i _=>g.Gb.length - (intOf i).toNat)
  case atStart=>exact ⟨0,cg _,rfl,bj _ _⟩
  case round =>
   obtain ⟨k,hk,rfl,hB⟩:=hrel;have HB:=aa hB;clear hB;have Ml:=aa (HS10.o.below HB.o)
   by_cases hlt:k<g.Gb.length
   ·obtain ⟨d,hd⟩:=aj g.Gb k hlt
    obtain ⟨x,hx⟩:=aj xs k (by have:=NA.o;omega);obtain ⟨y,hy⟩:=aj ys k (by have:=HYL.o;omega);obtain ⟨b,off,us,hsp,gR,cX,ez,eE,hcv⟩:=Ml.o.gr.Gb.elem hd;obtain ⟨tv,rfl,ew⟩:=eE;obtain ⟨tp,tc,rfl,_,_⟩:=ew.cap;clear ew;have g6:=Ml.o.gc 6 _ rfl;rw [hsp] at g6;obtain ⟨d0,d1,d2,d3,d4,d5,d6⟩:=se hcv;rw [fg] at d0;have WU:=aa (MI.o.dfind k d hd);have OB:=aa (HXP.o k d x hd hx);have UN:=aa (HYP.o k d y hd hy);obtain ⟨bx,ux,Uv,_,sk,Ox,Zt⟩:=Mj.o.at hx;obtain ⟨by',uy,hpy,_,hby,Zu,Zv⟩:=Mk.o.at hy;have Tx:wr.cell? ⟨bx,k,none⟩=some ux:=(HB.o.cell (p:=⟨bx,k,none⟩) sk).trans Ox;have Ty:wr.cell? ⟨by',k,none⟩=some uy:=(HB.o.cell (p:=⟨by',k,none⟩) hby).trans Zu;have Zw:=aa (Zt.below HB.o).rd;have Zx:=aa (Zv.below HB.o).rd;have LZ:=HB.o.size;have kj:=aa (MI.o.dext d (ct hd));clear hcv ez hsp hd hx hy Ox Zu Zt Zv;subst Uv;subst hpy;have hA:=ae wr (.cells #[.string d.name,.int .u64 d.id,.int .i64 d.first,.int .i64 d.Gc,.bool d.closed,.bool d.missing,.slice tp d.tags.length tc] 47);have HN:=aa (b9 wr (.cells #[.string d.name,.int .u64 d.id,.int .i64 d.first,.int .i64 d.Gc,.bool d.closed,.bool d.missing,.slice tp d.tags.length tc] 47));have JE:=aa (Ml.o.below hA);have Tz:=aa (Zw.o.below hA);have TD:=aa (Zx.o.below hA);have TE:(wr.alloc (.cells #[.string d.name,.int .u64 d.id,.int .i64 d.first,.int .i64 d.Gc,.bool d.closed,.bool d.missing,.slice tp d.tags.length tc] 47)).cell? ⟨bx,k,none⟩=some ux:=(hA.cell (p:=⟨bx,k,none⟩) (show bx<wr.heap.size by omega)).trans Tx;have TF:(wr.alloc (.cells #[.string d.name,.int .u64 d.id,.int .i64 d.first,.int .i64 d.Gc,.bool d.closed,.bool d.missing,.slice tp d.tags.length tc] 47)).cell? ⟨by',k,none⟩=some uy:=(hA.cell (p:=⟨by',k,none⟩) (show by'<wr.heap.size by omega)).trans Ty;have pL:=aa (HB.o.trans (hA.mono LZ));have hlB:=hA.size;clear hA Tx Ty Zw Zx
    go_upto_region 15 with (fail)
    clear d0 d1 d2 d3 d4 d5 d6 g6;generalize hW6:World.alloc wr _=W6 at *;generalize J6:wr.heap.size=Bd at *;clear hW6;have gL:=JE.o.gc;obtain ⟨g0,g1,g2,g3,g4,g5,g6,g7,g8⟩:=xr gL;clear gL;have d0:=cr HN.o 0 _ rfl
    have SJ:=aa (Ie g a d.name W6 JE.o.gr.Gb (by have:=MI.o.dl;omega) (fun D hD=>⟨(MI.o.dext D hD).1,by have:=(MI.o.dext D hD).2;omega⟩) JE.o.gr.F9 (by have:=MI.o.vl;omega) MI.o.tame
     (fun p hp=>⟨(MI.o.ps p hp).1,by have:=(MI.o.ps p hp).2;omega⟩) RL.o (by have:=MI.o.pn;omega))
    go_wp2_with fail
    clear g0 g1 g2 g3 g4 g5 g6 g7 g8 d0;refine SJ.o.mono ?_;clear SJ;rintro e w7 hr7;unfold Aw at hr7;rw [WU.o] at hr7;obtain ⟨fv,fl,rfl,SK,hfn,SM,_,hb7⟩:=hr7;have I5:=aa hfn
    have ML:fl.length<=60:=by
     have h1:=Hd fl hfn.1.1;have h2:=(hfn.sum_bd kj.o.1 (fun n q=>q.1)).2;have:=kj.o.2;omega
    have CM:=aa SK.rd;have Ux:=aa SM;have wk:=aa (pL.o.trans (hb7.mono (by omega)));have HS7:=aa (JE.o.below hb7);have Sx:=aa ((hb7.block _ (aq HN.o)).trans HN.o);have PZ:=aa (Tz.o.below hb7);have TG:=aa (TD.o.below hb7);have c1:w7.cell? ⟨bx,k,none⟩=some ux:=(hb7.cell (p:=⟨bx,k,none⟩) (show bx<W6.heap.size by omega)).trans TE;have c2:w7.cell? ⟨by',k,none⟩=some uy:=(hb7.cell (p:=⟨by',k,none⟩) (show by'<W6.heap.size by omega)).trans TF;have c3:=cr Sx.o 4 _ rfl;have c4:=cr Sx.o 5 _ rfl
    have c5:w7.cell? ⟨Bq,4,none⟩=some (.string r.tag):=HS7.o.qc 4 _ rfl;have hz7:=hb7.size;have Kc:=aq Sx.o;have XU:=aq HS7.o.qb;clear SK hfn SM hb7 JE HN Tz TD TE TF pL
    have H1:Hid (∀ w',Below w7.heap.size w7 w'->Calls prog 24 #[ux,fv,.int .i64 1] w' fun e w''=>∃ p c,e=.returned (.slice p 0 c)/\Below w7.heap.size w7 w''):=aa fun w' hb=>by
     refine (Gn x fl 1 (.inr (.inl rfl)) ux fv w' (PZ.o.below hb) (CM.o.below hb) OB.o.2.2 Ux.o (by have:=OB.o.2.1;omega) (by omega)).mono ?_;rintro e w'' ⟨v,s,rfl,ho,hs,_,_,hb2⟩;obtain rfl:=Ha OB.o.1 I5.o hs fun n=>GG;obtain ⟨p,c,rfl,_⟩:=ho.rd;exact ⟨p,c,rfl,hb.trans (hb2.mono hb.size)⟩
    have H2:Hid (∀ w',Below w7.heap.size w7 w'->Calls prog 24 #[ux,uy,.int .i64 1] w' fun e w''=>∃ p c,e=.returned (.slice p 0 c)/\Below w7.heap.size w7 w''):=aa fun w' hb=>by
     refine (Gn x y 1 (.inr (.inl rfl)) ux uy w' (PZ.o.below hb) (TG.o.below hb) OB.o.2.2 UN.o.2.2 (by have:=OB.o.2.1;omega) (by have:=UN.o.2.1;omega)).mono ?_;rintro e w'' ⟨v,s,rfl,ho,hs,_,_,hb2⟩;obtain rfl:=Ha OB.o.1 UN.o.1 hs fun n=>GY;obtain ⟨p,c,rfl,_⟩:=ho.rd;exact ⟨p,c,rfl,hb.trans (hb2.mono hb.size)⟩
    have H3:Hid (d.closed=false->d.missing=false->r.tag.toList.isEmpty=true->∀ w',Below w7.heap.size w7 w'->Calls prog 25 #[uy,fv] w' fun e w''=>e=.returned (.bool true)/\Below w7.heap.size w7 w''):=aa fun hc hm ht w' hb=>by
     obtain rfl:y=fl:=UN.o.1.eq I5.o fun n=>Hm hc hm ht;refine (DN y y uy fv w' (TG.o.below hb) (CM.o.below hb)).mono ?_;rw [DR];rintro e w'' ⟨rfl,hb2⟩;exact ⟨rfl,hb.trans (hb2.mono hb.size)⟩
    have Tm:(d.closed||d.missing)=true->x.length=0:=fun h=>by
     have:=Iw OB.o.1 fun n=>Ht h;rw [this];rfl
    obtain ⟨pu,cu,Ox,_,_,_⟩:=PZ.o;have PK:=OB.o.2.1
    go_upto_region 16 with (fail)
    refine Hr _ _ _ _ _ _ _ _ _ _ _ _ _ _ _ _ _ _ _ _ _ _ _ _ _ _ _ _ _ _ _ _ _ _ _ _ _ _ _ _ _ _ _ _ _ _ _ _ _ _ _ _ _ _ _ _ _ _ _ _ _ _ _ _ _ _ _ _ _ _ _ _ _ _ _ _ _ _ _ _ _ _ _ _ _ _ _ _ _ _ _ _ _ _ _ _ _ _ _ _ _ _ _ _ _ _ _ _ _ _ _ _ _ _ _ _ _ _ _ _ _ _ _ _ _ _ _ _ _ _ _ _ _ _ w7 Bg Bq Bd bx by' k g.Gb.length cx cy x.length pu cu ux uy fv d.closed d.missing r.tag hlt PY Tw Ma Tl Ox PK Tm (by omega) (by omega) Kc XU c1 c2 c3 c4 c5 H1.o H2.o H3.o (aa ?_) ?hQ
    case hQ=>exact fun _ _ _ _ _ h=>h
    intro w' u78 u79 u80 u81 u82 u83 u84 u85 u86 u87 u88 u89 u90 u91 u92 u93 u94 u95 u96 u97 u98 u99 u100 u101 u102 u103 u104 u105 u106 u107 u108 u109 u110 u111 u112 u113 u114 u115 u116 u117 u118 u119 u120 u121 u122 u123 u124 u125 u126 u127 u128 u129 u130 u131 u132 u133 u134 u135 u136 u137 hb';have LX:=aa (wk.o.trans (hb'.mono (by have:=wk.o.size;omega)));clear hb' c1 c2 c3 c4 c5 Ox Tm;go_wp2;go_roundw
    case rel=>exact ⟨k+1,by omega,by go_num,LX.o⟩
    case measure=>simp [intOf];omega
   ·obtain rfl:k=g.Gb.length:=by omega
    have XV:=aa (wR wr Ml.o.sf);have B3:=aa Ml.o.bl
    go_wp2_with fail
    refine XV.o.mono ?_;rintro e w11 ⟨rfl,hb11⟩;have C7:=aa (B3.o.trans (hb11.mono B3.o.size));clear hb11;go_wp2;go_ret;exact ⟨rfl,C7.o⟩
 ·rw [bh Mu] at vh
  have Ji:(kP g r != 0)=true:=by simpa using Mu
  generalize kP g r=pe at *;obtain rfl:xs=[]:=fX vh;clear vh Mu Nv;obtain ⟨px,cx,rfl,PY,Ma⟩:=PW.o.cap;have XV:=aa (wR w8 HS8.o.sf);have B3:=aa HS8.o.bl
  go_wp2_with fail
  refine XV.o.mono ?_;rintro e w11 ⟨rfl,hb11⟩;have C7:=aa (B3.o.trans (hb11.mono B3.o.size));clear hb11;go_wp2;go_ret;exact ⟨rfl,C7.o⟩
open Go.ChangeShapes Go.WideShapes Go.ChangeAt Go.WideMaps Go.WideElems
def nC {H : Type} : List (String × DataW H) := [("volumegroup/names.suffixes", Rows.laid_volumegroup_names_suffixes)]
theorem BU : prog.globalNamed "volumegroup/names.suffixes" = some 0 := by kernel_rfl
theorem BB:(prog.globals[0]?).map (·.type)=some 248:=by kernel_rfl
theorem Cj (os:Os)(args:Array Value):laidMetH prog nC ((World.doorLaid prog 400 os).forCall (fun _ _=>0) ⟨#[],args,[]⟩).memory :=
 laidMetH_of_parts3 (fuel:=8) (laidMet_of_run' 8 (by kernel_rfl) (by kernel_rfl)) (by kernel_rfl) (by kernel_rfl)
theorem vW {W:World}(h:laidMetH prog nC W):AW W:=by
 rw [MakeChecks.laidMetH_plain _ _ _ (by kernel_rfl)] at h;obtain ⟨ps,⟨g0,t0,cs0,f0,p0,q0,hg0,ht0,hv0,hd0,_,_⟩,_,_⟩:=h;obtain rfl:=gj (BU.symm.trans hg0);obtain rfl:=gj (BB.symm.trans ht0);obtain ⟨xs,m1,rfl,hx1,hlen,hn,Vh⟩:=DataW.trod_array underlying248 hd0;have c1:prog.cellsOf 9=1:=by kernel_rfl
 have c5:prog.cellsOf 248=5:=by kernel_rfl
 simp only [Prod.mk.injEq,DataW.agg.injEq] at hx1;rw [c5] at hlen;have hx2:=hx1.1;unfold Rows.laid_volumegroup_names_suffixes at hx2;injection hx2 with hx2
 obtain ⟨l⟩:=cs0;have hl:l.length=5:=by simpa using hlen
 have key:∀ (i:Nat) (s:List UInt8),([] :: nV)[i]?=some s->l[i]?=some (.string ⟨s.toArray⟩):=fun i s hs=>by
  have hi:i<5:=by
   have:=(List.getElem?_eq_some_iff.1 hs).1;simpa [nV] using this
  have he:=Vh i hi;obtain ⟨x,hx⟩:=aj xs i (by omega);rw [hx,c1] at he;obtain ⟨t,e1,e2,_⟩:=DataW.trod_string underlying9 he;have QF:(xs.map (·.1))[i]?=some x.1:=by rw [rI,hx];rfl
  rw [<- hx2,e2] at QF
  have h1:l[i]?=some (.string t):=by
   have:=fj (fun z:List Value=>z[0]?) e1;simpa [xF,pk] using this
  have h2:t.data.toList=s:=by
   rcases (show i=0\/i=1\/i=2\/i=3\/i=4 by omega) with rfl | rfl | rfl | rfl | rfl <;>
    (have e3:=gj hs;subst e3;simpa [Rows.laid_volumegroup_names_suffixes] using QF.symm)
  rw [h1,bytes_eta t,h2]
 have hlt:0<W.heap.size:=by
  have:=World.var?_cell hg0 hv0 0;have h0:=key 0 [] rfl;have hc:W.cell? ⟨0,0,none⟩=some (.string ⟨#[]⟩):=by simpa [h0] using this
  exact Nat.pos_of_ne_zero fun e=>by simp [World.cell?,xp (by omega:W.heap.size<=0)] at hc
 refine ⟨hlt,fun i s hs=>?_⟩;have:=World.var?_cell hg0 hv0 i;rw [this];simpa using key i s hs
end Go.Proofs.YtjdfihglehfelaaGreatDoor
