/- Lemmas: PolS, PolK, RxA, LaidS, NeaA. -/
import Derived.Test.YtjdfihglehfelaaGreatDoorPf47
import Derived.Test.YtjdfihglehfelaaGreatDoorPf33
import Derived.LaidMore
import Derived.Stop.Joined
set_option maxRecDepth 100000
set_option maxHeartbeats 32000000
set_option linter.all false
namespace Go.Proofs.YtjdfihglehfelaaGreatDoor
open Go.Proofs.Tryz
open Go.RowKit Go.Maps Go.Shelf
theorem iE.start {x l:List (Int × Int)}(h:iE x (Mem l)){p:Int × Int}(hp:p∈x):∃ q∈l,q.1=p.1:=by
 have h1:=h.1.1 p hp;obtain ⟨q,hq,q1,q2⟩:=(h.2 p.1).1 ⟨p,hp,by omega,by omega⟩;refine ⟨q,hq,?_⟩;refine Decidable.byContradiction fun ne=>?_;obtain ⟨p',hp',a1,a2⟩:=(h.2 (p.1 - 1)).2 ⟨q,hq,by omega,by omega⟩;have Ua:=h.1.2;rw [List.pairwise_iff_getElem] at Ua;obtain ⟨i,hi,rfl⟩:=List.mem_iff_getElem.1 hp;obtain ⟨j,hj,rfl⟩:=List.mem_iff_getElem.1 hp';rcases Nat.lt_trichotomy i j with OG | OG | OG
 ·have:=Ua i j hi hj OG
  omega
 ·subst OG
  omega
 ·have:=Ua j i hj hi OG
  omega
def P7:ByteArray:=⟨#[115,105,116,101,61,49]⟩
def iU:af:=⟨⟨#[118,103]⟩,0,0,1,0,[],[⟨⟨#[97]⟩,1,0,4,false,false,[P7]⟩,⟨⟨#[98]⟩,2,0,4,false,false,[]⟩],[],[]⟩
def rC:aY:=⟨1,1,1,4,⟨#[]⟩,⟨#[]⟩,⟨#[115,105,116,101,61]⟩⟩
theorem xO:kP iU rC=0:=by kernel_rfl
theorem Et:jU iU rC 0=P7:=by kernel_rfl
theorem Eb:jU iU rC 1=⟨#[98,32]⟩:=by kernel_rfl
theorem EC:NL iU:=by
 refine ⟨⟨by decide,⟨by decide,fun s hs=>by cases hs⟩,by decide,by decide,by decide,fun d hd=>?_,fun v hv=>(by cases hv),fun h hh=>(by cases hh)⟩,⟨by decide,fun d hd=>?_,by decide,fun v hv=>(by cases hv)⟩,fun v hv=>(by cases hv),fun v hv=>(by cases hv)⟩
 ·simp only [iU,dr,cY,dg] at hd
  rcases hd with rfl | rfl
  ·exact ⟨by decide,by decide,fun s hs=>by obtain rfl:=List.mem_singleton.1 hs;decide⟩
  ·exact ⟨by decide,by decide,fun s hs=>by cases hs⟩
 ·simp only [iU,dr,cY,dg] at hd
  rcases hd with rfl | rfl <;> decide
theorem Ec:dK rC:=⟨by decide,by decide,by decide,by decide,by decide,by decide,by decide⟩
theorem wR (w:World)(hS:AW w) :
  Calls prog 21 #[] w fun e w'=>e=.returned (.bool true)/\Below w.heap.size w w':=by
 have MD:=aa hS;clear hS;go_enter func21,ntmps21
 go_upto_region 3 with (fail)
 generalize hW5:World.alloc (World.alloc (World.alloc (World.alloc w _) _) _) _=W5
 have b5:Below w.heap.size w W5:=by
  rw [<- hW5];exact ((((bj _ _).alloc (bk _) _).alloc (by simp <;> omega) _).alloc (by simp <;> omega) _).alloc (by simp <;> omega) _
 have h0:W5.heap[w.heap.size]?=some (.cells #[.string P7] 9 (0,0)):=by
  rw [<- hW5,cj _ _ _ (by simp <;> omega),cj _ _ _ (by simp <;> omega),cj _ _ _ (by simp <;> omega)];exact b9 w _
 have h1:W5.heap[w.heap.size+1]?=some (.cells #[.string ⟨#[97]⟩,.int .u64 1,.int .i64 0,.int .i64 4,.bool false,.bool false,.slice (some ⟨w.heap.size,0,none⟩) 1 1,.string ⟨#[98]⟩,.int .u64 2,.int .i64 0,.int .i64 4,.bool false,.bool false,.slice none 0 0] 47 (0,0)):=by
  rw [<- hW5,cj _ _ _ (by simp <;> omega),cj _ _ _ (by simp <;> omega)];exact lZ (by simp)
 have h2:W5.heap[w.heap.size+1+1]?=some (.cells #[.string ⟨#[118,103]⟩,.int .u64 0,.int .i64 0,.int .i64 1,.int .i64 0,.slice none 0 0,.slice (some ⟨w.heap.size+1,0,none⟩) 2 2,.slice none 0 0,.slice none 0 0] 31 (0,0)):=by
  rw [<- hW5,cj _ _ _ (by simp <;> omega)];exact lZ (by simp)
 have h3:W5.heap[w.heap.size+1+1+1]?=some (.cells #[.int .i64 1,.int .i64 1,.int .i64 1,.int .i64 4,.string ⟨#[]⟩,.string ⟨#[]⟩,.string ⟨#[115,105,116,101,61]⟩] 35 (0,0)):=by
  rw [<- hW5];exact lZ (by simp)
 clear hW5;have ht:ck aF 1 (fun _=>True) W5 [.slice (some ⟨w.heap.size,0,none⟩) 1 1] [P7]:=ck.one (u:=[.string P7]) h0 trivial rfl rfl
 have hd:ck aO 7 (fun _=>True) W5 [.slice (some ⟨w.heap.size+1,0,none⟩) 2 2] iU.Gb:=⟨_,2,rfl,by decide,by decide,fun _=>⟨_,0,rfl,aq h1,trivial,fun i x hx=>by
  match i,hx with
  | 0,hx =>
   obtain rfl:=gj hx;refine ⟨[.string ⟨#[97]⟩,.int .u64 1,.int .i64 0,.int .i64 4,.bool false,.bool false,.slice (some ⟨w.heap.size,0,none⟩) 1 1],rfl,⟨_,rfl,ht⟩,fun j z hz=>?_⟩;simp only [World.cell?,h1]
   match j,hz with
   | 0,hz=>simpa using hz
   | 1,hz=>simpa using hz
   | 2,hz=>simpa using hz
   | 3,hz=>simpa using hz
   | 4,hz=>simpa using hz
   | 5,hz=>simpa using hz
   | 6,hz=>simpa using hz
   | j+7,hz=>simp at hz
  | 1,hx =>
   obtain rfl:=gj hx;refine ⟨[.string ⟨#[98]⟩,.int .u64 2,.int .i64 0,.int .i64 4,.bool false,.bool false,.slice none 0 0],rfl,⟨_,rfl,ck.nil⟩,fun j z hz=>?_⟩;simp only [World.cell?,h1]
   match j,hz with
   | 0,hz=>simpa using hz
   | 1,hz=>simpa using hz
   | 2,hz=>simpa using hz
   | 3,hz=>simpa using hz
   | 4,hz=>simpa using hz
   | 5,hz=>simpa using hz
   | 6,hz=>simpa using hz
   | j+7,hz=>simp at hz
  | i+2,hx=>simp [iU] at hx⟩⟩
 have hgr:dN (fun _=>True) W5 iU ⟨none,0,some ⟨w.heap.size+1,0,none⟩,2,none,0,none,0⟩:=⟨ck.nil,hd,ck.nil,ck.nil⟩
 have gL:∀ (W:World),W.heap[w.heap.size+1+1]?=W5.heap[w.heap.size+1+1]?->∀ (j:Nat) (z:Value),[.string ⟨#[118,103]⟩,.int .u64 0,.int .i64 0,.int .i64 1,.int .i64 0,.slice none 0 0,.slice (some ⟨w.heap.size+1,0,none⟩) 2 2,.slice none 0 0,.slice none 0 0][j]?=some z->W.cell? ⟨w.heap.size+1+1,j,none⟩=some z:=fun W e j z hz=>by
  simp only [World.cell?,e,h2];simpa using hz
 have rL:∀ (W:World),W.heap[w.heap.size+1+1+1]?=W5.heap[w.heap.size+1+1+1]?->∀ (j:Nat) (z:Value),[.int .i64 1,.int .i64 1,.int .i64 1,.int .i64 4,.string ⟨#[]⟩,.string ⟨#[]⟩,.string ⟨#[115,105,116,101,61]⟩][j]?=some z->W.cell? ⟨w.heap.size+1+1+1,j,none⟩=some z:=fun W e j z hz=>by
  simp only [World.cell?,e,h3];simpa using hz
 have hz2:=aq h2;have hz3:=aq h3;have Lm:=aa hgr;have eK:=aa b5;have Qz:=aa gL;have Zq:=aa rL;clear hgr hd ht h0 h1 h2 h3 b5;have gA:=gL W5 rfl;obtain ⟨g0,g1,g2,g3,g4,g5,g6,g7,g8⟩:=xr gA;have rA:=rL W5 rfl;obtain ⟨r0,r1,r2,r3,r4,r5,r6⟩:=se rA;clear gL rL gA rA;have HP:=aa (jk iU ⟨none,0,some ⟨w.heap.size+1,0,none⟩,2,none,0,none,0⟩ rC W5 Lm.o EC Ec (MD.o.below eK.o))
 go_wp2_with fail
 clear g0 g1 g2 g3 g4 g5 g6 g7 g8 r0 r1 r2 r3 r4 r5 r6;refine HP.o.mono ?_;clear HP;intro e w6 hp;obtain ⟨xv,xs,rfl,OA,-,vh,hb6⟩:=hp.form;rw [xO,aw rfl] at vh;rw [xO];obtain ⟨px,cx,rfl,_,_⟩:=OA.cap;have Tn:xs.length=2:=vh;rw [Tn];clear OA vh Tn hp;have qs:=aa (eK.o.trans (hb6.mono eK.o.size));have Tp:=aa (Lm.o.mv (ok':=fun _=>True) ⟨hb6.size,fun b hb _=>⟨trivial,hb6.block b hb⟩⟩);have gA:=Qz.o w6 (hb6.block _ hz2);obtain ⟨g0,g1,g2,g3,g4,g5,g6,g7,g8⟩:=xr gA;have rA:=Zq.o w6 (hb6.block _ hz3);obtain ⟨r0,r1,r2,r3,r4,r5,r6⟩:=se rA;have XO:=aa (hb6.block _ hz2);have XP:=aa (hb6.block _ hz3);have hsz6:=hb6.size;clear gA rA hb6
 have nt:∀ d∈iU.Gb,d.tags.length<=1000000/\d.name.size<=1000000:=fun d hd=>by
  simp only [iU,dr,cY,dg] at hd;rcases hd with rfl | rfl <;> decide
 have Oj:=aa nt;clear nt;have HC0:=aa (ug iU ⟨none,0,some ⟨w.heap.size+1,0,none⟩,2,none,0,none,0⟩ rC 0 w6 Tp.o.Gb (by decide) Oj.o (by decide))
 go_wp2_with fail
 clear g0 g1 g2 g3 g4 g5 g6 g7 g8 r0 r1 r2 r3 r4 r5 r6;refine HC0.o.mono ?_;clear HC0;rintro e w7 ⟨rfl,hb7⟩;rw [Et];have wk:=aa (qs.o.trans (hb7.mono qs.o.size));have XQ:=aa (Tp.o.mv (ok':=fun _=>True) ⟨hb7.size,fun b hb _=>⟨trivial,hb7.block b hb⟩⟩);have gA:=Qz.o w7 ((hb7.block _ (by omega)).trans XO.o);obtain ⟨g0,g1,g2,g3,g4,g5,g6,g7,g8⟩:=xr gA;have rA:=Zq.o w7 ((hb7.block _ (by omega)).trans XP.o);obtain ⟨r0,r1,r2,r3,r4,r5,r6⟩:=se rA;clear gA rA hb7;have HC1:=aa (ug iU ⟨none,0,some ⟨w.heap.size+1,0,none⟩,2,none,0,none,0⟩ rC 1 w7 XQ.o.Gb (by decide) Oj.o (by decide));have hs1:(P7.toList == [115,105,116,101,61,49])=true:=by simp [P7]
 go_wp2_with fail
 clear g0 g1 g2 g3 g4 g5 g6 g7 g8 r0 r1 r2 r3 r4 r5 r6;refine HC1.o.mono ?_;clear HC1;rintro e w8 ⟨rfl,hb8⟩;rw [Eb];have Ix:=aa (wk.o.trans (hb8.mono wk.o.size));clear hb8;go_wp2;go_ret;exact ⟨rfl,Ix.o⟩
def al5 (ok:Nat->Prop)(l:List ay)(nm:ByteArray)(w:World)(e:Ending)(w':World):Prop:=∃ (u:List Value) (k:Int),e=.returned (.tuple #[.agg u.toArray,.int .i64 k])/\aN ok w' u ((aM l nm).getD eY)/\decide (k<0)=!(aM l nm).isSome/\Below w.heap.size w w'
theorem aj7 {ok:Nat->Prop}(g:af)(a:bN)(nm:ByteArray)(w:World)(hr:ck aN 6 ok w [.slice a.vp g.F9.length a.vc] g.F9)(hd:g.F9.length<=1000000) :
  Calls prog 65 #[.agg #[.string g.name,.int .u64 g.id,.int .i64 g.seq,.int .i64 g.Gd,.int .i64 g.next,.slice a.tp g.tags.length a.tc,.slice a.dp g.Gb.length a.dc,.slice a.vp g.F9.length a.vc,.slice a.hp g.history.length a.hc],.string nm] w (al5 ok g.F9 nm w):=by
 have HR:=aa hr;clear hr;have hA1:=ae w (.cells #[.string g.name,.int .u64 g.id,.int .i64 g.seq,.int .i64 g.Gd,.int .i64 g.next,.slice a.tp g.tags.length a.tc,.slice a.dp g.Gb.length a.dc,.slice a.vp g.F9.length a.vc,.slice a.hp g.history.length a.hc] 31);have hN1:=b9 w (.cells #[.string g.name,.int .u64 g.id,.int .i64 g.seq,.int .i64 g.Gd,.int .i64 g.next,.slice a.tp g.tags.length a.tc,.slice a.dp g.Gb.length a.dc,.slice a.vp g.F9.length a.vc,.slice a.hp g.history.length a.hc] 31);have hA2:=ae (w.alloc (.cells #[.string g.name,.int .u64 g.id,.int .i64 g.seq,.int .i64 g.Gd,.int .i64 g.next,.slice a.tp g.tags.length a.tc,.slice a.dp g.Gb.length a.dc,.slice a.vp g.F9.length a.vc,.slice a.hp g.history.length a.hc] 31)) (.cells #[.string ⟨#[]⟩,.int .u64 0,.bool false,.bool false,.slice none 0 0,.slice none 0 0] 55);have hN2:=b9 (w.alloc (.cells #[.string g.name,.int .u64 g.id,.int .i64 g.seq,.int .i64 g.Gd,.int .i64 g.next,.slice a.tp g.tags.length a.tc,.slice a.dp g.Gb.length a.dc,.slice a.vp g.F9.length a.vc,.slice a.hp g.history.length a.hc] 31)) (.cells #[.string ⟨#[]⟩,.int .u64 0,.bool false,.bool false,.slice none 0 0,.slice none 0 0] 55);rw [cW] at hN2;have JW:=aa ((hA2.block _ (aq hN1)).trans hN1);have yi:=aa hN2;have cU:=aa (hA1.trans (hA2.mono hA1.size));clear hA1 hA2 hN1 hN2;go_enter func65,ntmps65
 go_upto_region 2 with (fail)
 generalize hW1:World.alloc (World.alloc w _) _=W1 at *;generalize Rz:w.heap.size+1=Br at *;generalize LY:w.heap.size=Bg at *;have pd:Hid (Below w.heap.size w W1):=aa (by rw [LY];exact cU.o);clear hW1 cU;have g6:=cr JW.o 7 _ rfl
 have rL:=cr yi.o
 obtain ⟨r0,r1,r2,r3,r4,r5⟩:=JR rL;have rf:=sr yi.o
 clear rL;have hL:∀ (V:World) (o:Nat) (z:Value),Below w.heap.size w V->Below w.heap.size w (V.setCell ⟨Br,o,none⟩ z):=fun V o z q=>q.setCell (p:=⟨Br,o,none⟩) (by show w.heap.size<=Br;omega) z;have HL:=aa hL;clear hL
 go_loop [6] (fun i=>∃ k:Nat,k<=g.F9.length/\i=.int .i64 k/\∀ (j:Nat) (D:ay),j<k->g.F9[j]?=some D->¬ D.name=nm) (fun i=>g.F9.length - (intOf i).toNat)
 case atStart=>exact ⟨0,cg _,rfl,fun j D hj=>by omega⟩
 case round =>
  obtain ⟨k,hk,rfl,hno⟩:=hrel;have IW:=aa hno;clear hno
  by_cases hlt:k<g.F9.length
  ·obtain ⟨d,hv⟩:=aj g.F9 k hlt
   obtain ⟨b,off,u,hsp,gR,cX,ez,sA,hcv⟩:=HR.o.elem hv;have My:=aa sA;obtain ⟨tv,sv,rfl,ew,fL⟩:=sA;obtain ⟨tp,tc,rfl,_,_⟩:=ew.cap;obtain ⟨sp,sc,rfl,_,_⟩:=fL.cap;clear ew fL;have cT:=pd.o.block b cX;rw [hsp] at g6;clear hsp;obtain ⟨q0,q1,q2,q3,q4,q5⟩:=NG cT hcv;have HD:=aa hv;clear hv;clear hcv ez cT
   by_cases pD:d.name=nm
   ·have e1:(d.name.toList == nm.toList)=true:=by rw [pD];simp
    have CM:Hid (aM g.F9 nm=some d):=aa (CW IW.o HD.o pD);have Mr:=aa pD;clear pD
    have I4:Hid (∀ wf:World,Below w.heap.size w wf->al5 ok g.F9 nm w (.returned (.tuple #[.agg #[.string d.name,.int .u64 d.id,.bool d.hidden,.bool d.ro,.slice tp d.tags.length tc,.slice sp d.Gf.length sc],.int .i64 k])) wf):=aa fun wf hb =>
     ⟨[.string d.name,.int .u64 d.id,.bool d.hidden,.bool d.ro,.slice tp d.tags.length tc,.slice sp d.Gf.length sc],k,rfl,by rw [CM.o];exact aN.moves.mv ⟨hb.size,fun b hb' ho=>⟨ho,hb.block b hb'⟩⟩ My.o,by rw [CM.o];simp,hb⟩
    go_wp2;refine eC (v:=.tuple #[.agg #[.string d.name,.int .u64 d.id,.bool d.hidden,.bool d.ro,.slice tp d.tags.length tc,.slice sp d.Gf.length sc],.int .i64 k]) (by simp [results,Tryz.results65,go_sem,r0,r1,r2,r3,r4,r5]) rfl (I4.o _ ?_);exact (HL.o _ _ _ (HL.o _ _ _ (HL.o _ _ _ (HL.o _ _ _ (HL.o _ _ _ (HL.o _ _ _ pd.o))))))
   ·have e1:=jI pD
    have HNN:Hid (∀ (j:Nat) (D:ay),j<k+1->g.F9[j]?=some D->¬ D.name=nm):=aa fun j D hj hD=>by
     by_cases hjk:j=k
     ·subst hjk
      rw [HD.o] at hD;injection hD with hD
      rw [<- hD];exact pD
     ·exact IW.o j D (by omega) hD
    clear pD;go_wp2;go_round
    case rel=>exact ⟨k+1,by omega,by go_num,HNN.o⟩
    case measure=>simp [intOf];omega
  ·obtain rfl:k=g.F9.length:=by omega
   have CM:Hid (aM g.F9 nm=none):=aa (yV IW.o)
   have I4:Hid (∀ wf:World,Below w.heap.size w wf->al5 ok g.F9 nm w (.returned (.tuple #[.agg #[.string ⟨#[]⟩,.int .u64 0,.bool false,.bool false,.slice none 0 0,.slice none 0 0],.int .i64 (-1)])) wf):=aa fun wf hb =>
    ⟨[.string ⟨#[]⟩,.int .u64 0,.bool false,.bool false,.slice none 0 0,.slice none 0 0],-1,rfl,by rw [CM.o];exact ⟨_,_,rfl,ck.nil,ck.nil⟩,by rw [CM.o];rfl,hb⟩
   go_wp2;refine eC (v:=.tuple #[.agg #[.string ⟨#[]⟩,.int .u64 0,.bool false,.bool false,.slice none 0 0,.slice none 0 0],.int .i64 (-1)]) (by simp [results,Tryz.results65,go_sem,r0,r1,r2,r3,r4,r5]) rfl (I4.o _ ?_);exact (HL.o _ _ _ (HL.o _ _ _ (HL.o _ _ _ (HL.o _ _ _ (HL.o _ _ _ (HL.o _ _ _ pd.o))))))
open Go.ChangeShapes Go.WideShapes Go.ChangeAt Go.WideMaps Go.WideElems
def nC {H : Type} : List (String × DataW H) := [("volumegroup/names.suffixes", Rows.laid_volumegroup_names_suffixes)]
theorem BU : prog.globalNamed "volumegroup/names.suffixes" = some 0 := by kernel_rfl
theorem BB:(prog.globals[0]?).map (·.type)=some 248:=by kernel_rfl
theorem Cj (os:Os)(args:Array Value):laidMetH prog nC ((World.doorLaid prog 400 os).forCall (fun _ _=>0) ⟨#[],args,[]⟩).memory :=
 laidMetH_of_parts3 (fuel:=8) (laidMet_of_run' 8 (by kernel_rfl) (by kernel_rfl)) (by kernel_rfl) (by kernel_rfl)
theorem vW {W:World}(h:laidMetH prog nC W):AW W:=by
 rw [MakeChecks.laidMetH_plain _ _ _ (by kernel_rfl)] at h;obtain ⟨ps,⟨g0,t0,cs0,f0,p0,q0,hg0,ht0,hv0,hd0,_,_⟩,_,_⟩:=h;obtain rfl:=gj (BU.symm.trans hg0);obtain rfl:=gj (BB.symm.trans ht0);obtain ⟨xs,m1,rfl,hx1,hlen,hn,Vh⟩:=DataW.trod_array underlying248 hd0;have c1:prog.cellsOf 9=1:=by kernel_rfl
 have c5:prog.cellsOf 248=5:=by kernel_rfl
 simp only [Prod.mk.injEq,DataW.agg.injEq] at hx1;rw [c5] at hlen;have hx2:=hx1.1;unfold Rows.laid_volumegroup_names_suffixes at hx2;injection hx2 with hx2
 obtain ⟨l⟩:=cs0;have hl:l.length=5:=by simpa using hlen
 have key:∀ (i:Nat) (s:List UInt8),([] :: nV)[i]?=some s->l[i]?=some (.string ⟨s.toArray⟩):=fun i s hs=>by
  have hi:i<5:=by
   have:=(List.getElem?_eq_some_iff.1 hs).1;simpa [nV] using this
  have he:=Vh i hi;obtain ⟨x,hx⟩:=aj xs i (by omega);rw [hx,c1] at he;obtain ⟨t,e1,e2,_⟩:=DataW.trod_string underlying9 he;have QF:(xs.map (·.1))[i]?=some x.1:=by rw [rI,hx];rfl
  rw [<- hx2,e2] at QF
  have h1:l[i]?=some (.string t):=by
   have:=fj (fun z:List Value=>z[0]?) e1;simpa [xF,pk] using this
  have h2:t.data.toList=s:=by
   rcases (show i=0\/i=1\/i=2\/i=3\/i=4 by omega) with rfl | rfl | rfl | rfl | rfl <;>
    (have e3:=gj hs;subst e3;simpa [Rows.laid_volumegroup_names_suffixes] using QF.symm)
  rw [h1,bytes_eta t,h2]
 have hlt:0<W.heap.size:=by
  have:=World.var?_cell hg0 hv0 0;have h0:=key 0 [] rfl;have hc:W.cell? ⟨0,0,none⟩=some (.string ⟨#[]⟩):=by simpa [h0] using this
  exact Nat.pos_of_ne_zero fun e=>by simp [World.cell?,xp (by omega:W.heap.size<=0)] at hc
 refine ⟨hlt,fun i s hs=>?_⟩;have:=World.var?_cell hg0 hv0 i;rw [this];simpa using key i s hs
theorem ai6 (Q:Exit->Act->World->Prop)(c0 c1 c2 c3 c4 c5 c6 c10 c11 c12 c13 c14 c15 c16 c17 c18 c19 c20 c21 c22 c23 c24 c25 c26 c27 c28 c29 c30 c31 c32 c33 c34 c35 c36 c37 c38 c39 c40 c41 c42 c43 c44 c45 c46 c47 c48 c49 c50 c51 c52 c53 c54 c55 c56 c57 c58 c59 c60 c61 c62 c63 c64 c65 c66 c67 c68 c69 c70 c71 c72:Value)(w:World)(B Bs b3 off3 k:Nat)(eN:Option Addr)(ac eR:Nat)(s:aB)(a:aR)(v8:Value)(l:List aR)
  (hB:B<=w.heap.size) (IQ:k<s.Ga.length) (Jb:s.Ga.length<=1000) (JI:l.length<=100000) (hlen:0<=s.length/\s.length<=1000000) (hst:0<=a.start/\a.start<=1000000)
  (hs:w.heap[Bs]?=some (.cells #[.int .i64 s.start,.int .i64 s.length,.int .i64 s.kind,.slice (some ⟨b3,off3,none⟩) s.Ga.length ac,.int .i64 s.chunk,.slice eN s.stale.length eR,.string s.log,.string s.pool,.int .i64 s.device,.int .i64 s.mode,.int .i64 s.done] 79 (0,0))) (hb3:b3<w.heap.size) (ha1:w.cell? ⟨b3,off3+k*3+1,none⟩=some (.string a.on)) (ha2:w.cell? ⟨b3,off3+k*3+2,none⟩=some (.int .i64 a.start))
  (hO:iC B w v8 l)
  (HK:Hid (∀ (v':Value) (w':World) (u53 u54 u55 u56 u57 u58 u59 u60 u61 u62 u63 u64 u65 u66 u67 u68 u69 u70 u71:Value),iC B w' v' (l++[kJ s a])->Below B w w'->w'.heap[Bs]?=w.heap[Bs]?->Q .normal ⟨#[c0,c1,c2,c3,c4,c5,c6,.pointer (some ⟨Bs,0,none⟩),v',.int .i64 (k:Int),c10,c11,c12,c13,c14,c15,c16,c17,c18,c19,c20,c21,c22,c23,c24,c25,c26,c27,c28,c29,c30,c31,c32,c33,c34,c35,c36,c37,c38,c39,c40,c41,c42,c43,c44,c45,c46,c47,c48,c49,c50,c51,c52,u53,u54,u55,u56,u57,u58,u59,u60,u61,u62,u63,u64,u65,u66,u67,u68,u69,u70,u71,c72],[]⟩ w'))
  (hQ:∀ c (a:Act) (d:Tmp) (v:Value) w,Q (.panic c) (a.put (some d) v) w->Q (.panic c) a w) :
  (Ai Tryz.f27 12).wp prog Q ⟨#[c0,c1,c2,c3,c4,c5,c6,.pointer (some ⟨Bs,0,none⟩),v8,.int .i64 (k:Int),c10,c11,c12,c13,c14,c15,c16,c17,c18,c19,c20,c21,c22,c23,c24,c25,c26,c27,c28,c29,c30,c31,c32,c33,c34,c35,c36,c37,c38,c39,c40,c41,c42,c43,c44,c45,c46,c47,c48,c49,c50,c51,c52,c53,c54,c55,c56,c57,c58,c59,c60,c61,c62,c63,c64,c65,c66,c67,c68,c69,c70,c71,c72],[]⟩ w:=by
 conv=>arg 2;whnf
 have GF:=aq hs
 have sL:∀ (j:Nat) (z:Value),[.int .i64 s.start,.int .i64 s.length,.int .i64 s.kind,.slice (some ⟨b3,off3,none⟩) s.Ga.length ac,.int .i64 s.chunk,.slice eN s.stale.length eR,.string s.log,.string s.pool,.int .i64 s.device,.int .i64 s.mode,.int .i64 s.done][j]?=some z->∀ q:fo,(ext w q).cell? ⟨Bs,j,none⟩=some z:=fun j z hz=>aG GF (by
  simp only [World.cell?,hs]
  simpa using hz)
 obtain ⟨s0,s1,s2,s3,s4,s5,s6,s7,s8,s9,s10⟩:=IC sL;have a1:=aG hb3 ha1;have a2:=aG hb3 ha2;have HO:=aa hO;clear hO;have HS:=aa hs;clear hs;have hlen1:=hlen.1;have hlen2:=hlen.2;have hst1:=hst.1;have hst2:=hst.2
 have he0:0<=iB s.kind s.length s.Ga.length:=by
  unfold iB;split
  ·exact lz hlen1 (by omega)
  ·exact hlen1
 have he1:iB s.kind s.length s.Ga.length<=1000000:=by
  unfold iB;split
  ·exact Int.le_trans (mS _ hlen1) hlen2
  ·exact hlen2
 obtain ⟨i0,hi,hz0,hz1,hz2⟩:=ei kL;have HI:=aa hi;clear hi;have H0:=aa hz0;clear hz0;have H1:=aa hz1;clear hz1;have H2:=aa hz2;clear hz2;have HEA:Hid (kJ s a=⟨false,a.on,a.start+iB s.kind s.length s.Ga.length⟩):=aa rfl;have Ss:=aa (fun w':World=>Im s.start s.length s.kind s.chunk s.device s.mode s.done (some ⟨b3,off3,none⟩) eN s.Ga.length ac s.stale.length eR s.log s.pool w' hlen1 (by omega) (by omega));generalize hex:iB s.kind s.length s.Ga.length=ex at *;have hwr:IntKind.i64.wrap (a.start+ex)=a.start+ex:=dy _ (by omega);clear sL ha1 ha2 hlen hst hex
 (refine lG _ 16 (by kernel_rfl) rfl rfl (by kernel_rfl) (by kernel_rfl) (fun _ _ _ _ h=>hQ _ _ _ _ _ h) (by go_simp;rfl) ?_;simp only [xi,iv,cQ,cL])
 repeat (go_big_quiet_step ((go_at_call 66;exact iH (Ss.o _))))
 with_reducible refine fR ?_
 intro wq ia;have kq:=dY ia;clear ia s0 s1 s2 s3 s4 s5 s6 s7 s8 s9 s10 a1 a2 Ss;have hO2:=HO.o.below kq;have G2:=ae wq (.cells #[.bool false,.string a.on,.int .i64 (a.start+ex)] 60);have hO3:=hO2.below G2;have HO3:=aa hO3;have pL:=aa G2;have LX:=aa kq;have PF:=cA hB kq.size;clear hO2 hO3 G2 kq
 go_wp2_with (at_builtin;refine dX aQ.moves underlying57 HI.o H0.o H1.o H2.o rfl (by decide) (by decide) rfl _ _ rfl B (fun _=>False) v8 l ⟨false,a.on,a.start+ex⟩ rfl HO3.o wq.heap.size 1 [.bool false,.string a.on,.int .i64 (a.start+ex)] rfl rfl rfl ?d3 ?d4 ?d5 ?d6 (fun _ _ f=>f) ?_)
 all_goals first | (case d3=>(simp [Value.oneCell'])) | (case d4=>(intro j y hy;exact aD rfl (by simpa using hy))) | (case d5=>omega) | (case d6=>omega) | (case d6=>simp only [cW];omega) | skip
 intro gb cap w3 hp;have CT:∀ j,j<w.heap.size->v8.ownBlock≠some j->w3.heap[j]?=w.heap[j]?:=fun j hj hne=>(hp.grown.block j (cC hj (cA LX.o.size pL.o.size)) (fun e=>hne e.symm)).trans ((pL.o.block j (cC hj LX.o.size)).trans (LX.o.block j hj));have jn:Below B w w3:=((LX.o.mono hB).trans (pL.o.mono PF)).grown hp.grown (by simp only [cW];omega) (fun j e=>(HO3.o.ge e).1);have hS:=CT Bs GF (HO.o.notSeg HS.o);have Qt:=hp.own;rw [<- HEA.o] at Qt;have HOW:=aa Qt;have PG:=aa jn;have Mx:=aa hS;clear hp Qt jn hS CT;go_wp2;exact HK.o _ _ _ _ _ _ _ _ _ _ _ _ _ _ _ _ _ _ _ _ _ HOW.o PG.o Mx.o
theorem ak3 {ok:Nat->Prop}(g:af)(a:bN)(nm:ByteArray)(w:World)(hr:ck aN 6 ok w [.slice a.vp g.F9.length a.vc] g.F9)(mb:g.F9.length<=1000000)(ht:qx g.F9)(CH:∀ v∈g.F9,∀ s∈v.Gf,fP s->∀ a∈s.Ga,0<=a.start/\a.start<=1000000) :
  Calls prog 27 #[.agg #[.string g.name,.int .u64 g.id,.int .i64 g.seq,.int .i64 g.Gd,.int .i64 g.next,.slice a.tp g.tags.length a.tc,.slice a.dp g.Gb.length a.dc,.slice a.vp g.F9.length a.vc,.slice a.hp g.history.length a.hc],.string nm] w (D7 w (jE g nm)):=by
 have HG:=aa hr;clear hr;have hA1:=ae w (.cells #[.string g.name,.int .u64 g.id,.int .i64 g.seq,.int .i64 g.Gd,.int .i64 g.next,.slice a.tp g.tags.length a.tc,.slice a.dp g.Gb.length a.dc,.slice a.vp g.F9.length a.vc,.slice a.hp g.history.length a.hc] 31);have cU:=aa hA1;clear hA1;have CN:=aa (b9 w (.cells #[.string g.name,.int .u64 g.id,.int .i64 g.seq,.int .i64 g.Gd,.int .i64 g.next,.slice a.tp g.tags.length a.tc,.slice a.dp g.Gb.length a.dc,.slice a.vp g.F9.length a.vc,.slice a.hp g.history.length a.hc] 31))
 have gL:=cr CN.o
 go_enter func27,ntmps27
 go_upto_region 1 with (fail)
 generalize hW1:World.alloc w _=W1 at *;obtain ⟨g0,g1,g2,g3,g4,g5,g6,g7,g8⟩:=xr gL;clear gL hW1;have KQ:=aa (aj7 (ok:=fun b=>ok b/\b<w.heap.size) g a nm W1 ((ck.moves aN.moves).mv ⟨cU.o.size,fun b hb ho=>⟨⟨ho,hb⟩,cU.o.block b hb⟩⟩ HG.o) mb)
 go_wp2_with fail
 clear g0 g1 g2 g3 g4 g5 g6 g7 g8;refine KQ.o.mono ?_;clear KQ;rintro e w2 ⟨u,kx,rfl,sA,hks,hb2⟩
 have eE:((aM g.F9 nm).getD eY).Gf.length<=1000/\∀ s∈((aM g.F9 nm).getD eY).Gf,((0<=s.length/\s.length<=1000000)/\s.Ga.length<=1000/\(fP s->∀ a∈s.Ga,a.vol=false))/\(fP s->∀ a∈s.Ga,0<=a.start/\a.start<=1000000):=by
  cases hf:aM g.F9 nm with
  | none=>simp [eY]
  | some v =>
   have hv:=eV hf;exact ⟨(ht v hv).1,fun s hs=>⟨(ht v hv).2 s hs,CH v hv s hs⟩⟩
 have Jg:=aa eE.2;have mb:=eE.1;have PH:Hid (jE g nm=oZ ((aM g.F9 nm).getD eY).Gf):=aa rfl
 have IW:Hid ((aM g.F9 nm).isSome=false->((aM g.F9 nm).getD eY).Gf.length=0):=aa fun q=>by
  cases hf:aM g.F9 nm with
  | none=>rfl
  | some v=>rw [hf] at q;cases q
 generalize (aM g.F9 nm).isSome=YW at *;generalize hv:(aM g.F9 nm).getD eY=v at *;have cm:=aa (cU.o.trans (hb2.mono cU.o.size));obtain ⟨tv,sv,rfl,ew,fL⟩:=sA;obtain ⟨tp,tc,rfl,_,_⟩:=ew.cap;obtain ⟨sp,sc,rfl,hsc1,hsc2⟩:=fL.cap;clear ew hb2 hv eE ht CH;have hA:=ae w2 (.cells #[.string v.name,.int .u64 v.id,.bool v.hidden,.bool v.ro,.slice tp v.tags.length tc,.slice sp v.Gf.length sc] 55);have zv:=aa (b9 w2 (.cells #[.string v.name,.int .u64 v.id,.bool v.hidden,.bool v.ro,.slice tp v.tags.length tc,.slice sp v.Gf.length sc] 55));have cJ:=aa (cm.o.trans (hA.mono cm.o.size));have JK:=aa ((ck.moves bC.moves).mv (Mv.of hA) fL);clear fL hA cm
 go_upto_region 2 with (fail)
 generalize hW3:World.alloc w2 _=W3 at *;generalize JX:w2.heap.size=Bv at *;clear hW3;have v5:=cr zv.o 5 _ rfl
 by_cases h0:v.Gf.length=0
 ·have HE:Hid (oZ v.Gf=[]):=aa (yg (fX h0))
  clear IW hks;cases hkx:decide (kx<0) with
  | true =>
   go_wp2;go_ret;exact ⟨_,rfl,by rw [PH.o,HE.o];exact iC.nil _ _,cJ.o⟩
  | false =>
   go_wp2;go_ret;exact ⟨_,rfl,by rw [PH.o,HE.o];exact iC.nil _ _,cJ.o⟩
 ·have hkx:decide (kx<0)=false:=by
   rw [hks];cases YW with
   | true=>rfl
   | false=>exact absurd (IW.o rfl) h0
  clear IW hks;obtain ⟨s,hs⟩:=aj v.Gf (v.Gf.length - 1) (by omega);have HE:=aa (Dn (by omega) hs);obtain ⟨b,off,us,hsp,gR,cX,ez,eE,hcv⟩:=JK.o.elem hs;subst hsp;have Su:=aa (Jg.o s (ct hs));obtain ⟨av,kp,rfl,gg,hst⟩:=eE;obtain ⟨ap,ac,rfl,_,_⟩:=gg.cap;obtain ⟨eN,eR,rfl,_,_⟩:=hst.cap;have cT:W3.heap[b]?=W3.heap[b]?:=rfl;obtain ⟨q0,q1,q2,q3,q4,q5,q6,q7,q8,q9,q10⟩:=JG cT hcv;have YX:((v.Gf.length:Int) - 1)=((v.Gf.length - 1:Nat):Int):=by omega
  clear hs hcv ez cT hst Jg;have hA:=ae W3 (.cells #[.int .i64 s.start,.int .i64 s.length,.int .i64 s.kind,.slice ap s.Ga.length ac,.int .i64 s.chunk,.slice eN s.stale.length eR,.string s.log,.string s.pool,.int .i64 s.device,.int .i64 s.mode,.int .i64 s.done] 79);have lj:=aa (b9 W3 (.cells #[.int .i64 s.start,.int .i64 s.length,.int .i64 s.kind,.slice ap s.Ga.length ac,.int .i64 s.chunk,.slice eN s.stale.length eR,.string s.log,.string s.pool,.int .i64 s.device,.int .i64 s.mode,.int .i64 s.done] 79));have eI:=aa (cJ.o.trans (hA.mono cJ.o.size));have ya:=aa ((ck.moves aQ.moves).mv (Mv.of hA) gg);clear gg hA cJ
  go_upto_region 4 with (fail)
  go_upto_region 5 with (fail)
  generalize hW4:World.alloc W3 _=W4 at *;generalize JY:W3.heap.size=Bs at *;clear hW4 q0 q1 q2 q3 q4 q5 q6 q7 q8 q9 q10 v5;have s2:=cr lj.o 2 _ rfl
  by_cases hk:s.kind=1\/s.kind=2
  ·have qT:Hid (jE g nm=qN s):=aa (by rw [PH.o,HE.o,aw hk])
   have G0:fP s:=by rcases hk with q | q;exact .inl q;exact .inr (.inl q)
   have Oc:=aa (Su.o.1.2.2 G0);have sY:=aa (Su.o.2 G0);have Jb:=Su.o.1.2.1;have Ky:=aa Su.o.1.1;clear HE PH Su G0
   have key:(s.kind != 1)=false\/((s.kind != 1)=true/\(s.kind != 2)=false):=by
    rcases hk with q | q
    ·exact .inl (by simp [q])
    ·exact .inr ⟨by simp [q],by simp [q]⟩
   clear hk;have Jq:Hid (w.heap.size<=W4.heap.size):=aa eI.o.size
   rcases key with n1 | ⟨n1,n2⟩ <;> (
    (go_upto_region 7 with (fail))
    (try clear n2)
    clear n1 s2 YX hkx
    (go_upto_region 8 with (fail))
    (go_upto_region 9 with (fail))
    (go_loopw [8,9] (fun lv i wr=>∃ k:Nat,k<=s.Ga.length/\i=.int .i64 k/\iC W4.heap.size wr lv ((s.Ga.take k).map (kJ s))/\Below W4.heap.size W4 wr) (fun _ i _=>s.Ga.length - (intOf i).toNat))
    case atStart=>exact ⟨0,cg _,rfl,iC.nil _ _,bj _ _⟩
    case round =>
     obtain ⟨k,hk,rfl,hown,hB⟩:=hrel;have HOW:=aa hown;clear hown;have HB:=aa hB;clear hB;have hsw:=(HB.o.block _ (aq lj.o)).trans lj.o;have s3:=cr hsw 3 _ rfl
     clear hsw
     by_cases hlt:k<s.Ga.length
     ·obtain ⟨x,hx⟩:=aj s.Ga k hlt
      obtain ⟨b3,off3,us3,hsp3,B7,wa,pT,J8,hcv3⟩:=ya.o.elem hx;subst hsp3;obtain rfl:us3=_:=J8;have JA:wr.heap[b3]?=W4.heap[b3]?:=HB.o.block b3 wa;obtain ⟨q0,q1,q2⟩:=Mn JA hcv3;have JZ:Hid ((s.Ga.take (k+1)).map (kJ s)=(s.Ga.take k).map (kJ s)++[kJ s x]):=aa (by rw [take_snoc' s.Ga k x hx,gl];rfl);have pS:=Oc.o x (ct hx);have hst:=sY.o x (ct hx);clear hx hcv3 pT JA;rw [pS] at q0;have mA:=HB.o.size
      go_upto_region 11 with (fail)
      go_upto_region 12 with (fail)
      clear q0;refine ai6 _ _ _ _ _ _ _ _ _ _ _ _ _ _ _ _ _ _ _ _ _ _ _ _ _ _ _ _ _ _ _ _ _ _ _ _ _ _ _ _ _ _ _ _ _ _ _ _ _ _ _ _ _ _ _ _ _ _ _ _ _ _ _ _ _ _ _ _ _ _ _ wr W4.heap.size Bs b3 off3 k eN ac eR s x _ _ mA hlt Jb (by rw [fW,ey];omega) Ky.o hst ((HB.o.block _ (aq lj.o)).trans lj.o) (cC wa mA) q1 q2 HOW.o (aa ?_) ?hQ
      case hQ=>exact fun _ _ _ _ _ h=>h
      intro v' w' u53 u54 u55 u56 u57 u58 u59 u60 u61 u62 u63 u64 u65 u66 u67 u68 u69 u70 u71 ho' hb' hs';have HO':=aa ho';clear ho';have Ks:=aa (HB.o.trans hb');clear hb' hs' q1 q2 s3;go_wp2;go_roundw
      case rel=>exact ⟨k+1,by omega,by go_num,by rw [JZ.o];exact HO'.o,Ks.o⟩
      case measure=>simp [intOf];omega
     ·obtain rfl:k=s.Ga.length:=by omega
      rw [cI] at HOW;have Ng:Hid ((jE g nm).map (fun x=>(⟨false,x.1,x.2⟩:aR))=s.Ga.map (kJ s)):=aa (by rw [qT.o];unfold qN;rw [List.map_map];rfl);go_wp2;go_ret
      exact ⟨_,rfl,by rw [Ng.o];exact HOW.o.mono Jq.o,eI.o.trans (HB.o.mono Jq.o)⟩)
  ·have qT:Hid (jE g nm=[]):=aa (by rw [PH.o,HE.o,bh hk])
   have n1:(s.kind != 1)=true:=by simp;exact fun q=>hk (.inl q)
   have n2:(s.kind != 2)=true:=by simp;exact fun q=>hk (.inr q)
   clear hk;go_wp2;go_ret;exact ⟨_,rfl,by rw [qT.o];exact iC.nil _ _,eI.o⟩
end Go.Proofs.YtjdfihglehfelaaGreatDoor
