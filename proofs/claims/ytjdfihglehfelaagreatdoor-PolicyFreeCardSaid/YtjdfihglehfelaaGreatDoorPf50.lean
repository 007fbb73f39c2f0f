/- Lemmas: PolK, RxA, RxB. -/
import Derived.Test.YtjdfihglehfelaaGreatDoorPf47
import Derived.Test.YtjdfihglehfelaaGreatDoorPf33
import Derived.Test.YtjdfihglehfelaaGreatDoorPf49
set_option maxRecDepth 100000
set_option maxHeartbeats 32000000
set_option linter.all false
namespace Go.Proofs.YtjdfihglehfelaaGreatDoor
open Go.Proofs.Tryz
open Go.RowKit Go.Maps Go.Shelf
def P7:ByteArray:=⟨#[115,105,116,101,61,49]⟩
def iU:af:=⟨⟨#[118,103]⟩,0,0,1,0,[],[⟨⟨#[97]⟩,1,0,4,false,false,[P7]⟩,⟨⟨#[98]⟩,2,0,4,false,false,[]⟩],[],[]⟩
def rC:aY:=⟨1,1,1,4,⟨#[]⟩,⟨#[]⟩,⟨#[115,105,116,101,61]⟩⟩
theorem xO:kP iU rC=0:=by kernel_rfl
theorem Et:jU iU rC 0=P7:=by kernel_rfl
theorem Eb:jU iU rC 1=⟨#[98,32]⟩:=by kernel_rfl
theorem EC:NL iU:=by
 refine ⟨⟨by decide,⟨by decide,fun s hs=>by cases hs⟩,by decide,by decide,by decide,fun d hd=>?_,fun v hv=>(by cases hv),fun h hh=>(by cases hh)⟩,⟨by decide,fun d hd=>?_,by decide,fun v hv=>(by cases hv)⟩,fun v hv=>(by cases hv),fun v hv=>(by cases hv)⟩
 ·simp only [iU,dr,cY,dg] at hd
  rcases hd with rfl | rfl
  ·exact ⟨by decide,by decide,fun s hs=>by obtain rfl:=List.mem_singleton.1 hs;decide⟩
  ·exact ⟨by decide,by decide,fun s hs=>by cases hs⟩
 ·simp only [iU,dr,cY,dg] at hd
  rcases hd with rfl | rfl <;> decide
theorem Ec:dK rC:=⟨by decide,by decide,by decide,by decide,by decide,by decide,by decide⟩
theorem wR (w:World)(hS:AW w) :
  Calls prog 21 #[] w fun e w'=>e=.returned (.bool true)/\Below w.heap.size w w':=by
 have MD:=aa hS;clear hS;go_enter func21,ntmps21
 go_upto_region 3 with (fail)
 generalize hW5:World.alloc (World.alloc (World.alloc (World.alloc w _) _) _) _=W5
 have b5:Below w.heap.size w W5:=by
  rw [<- hW5];exact ((((bj _ _).alloc (bk _) _).alloc (by simp <;> omega) _).alloc (by simp <;> omega) _).alloc (by simp <;> omega) _
 have h0:W5.heap[w.heap.size]?=some (.cells #[.string P7] 9 (0,0)):=by
  rw [<- hW5,cj _ _ _ (by simp <;> omega),cj _ _ _ (by simp <;> omega),cj _ _ _ (by simp <;> omega)];exact b9 w _
 have h1:W5.heap[w.heap.size+1]?=some (.cells #[.string ⟨#[97]⟩,.int .u64 1,.int .i64 0,.int .i64 4,.bool false,.bool false,.slice (some ⟨w.heap.size,0,none⟩) 1 1,.string ⟨#[98]⟩,.int .u64 2,.int .i64 0,.int .i64 4,.bool false,.bool false,.slice none 0 0] 47 (0,0)):=by
  rw [<- hW5,cj _ _ _ (by simp <;> omega),cj _ _ _ (by simp <;> omega)];exact lZ (by simp)
 have h2:W5.heap[w.heap.size+1+1]?=some (.cells #[.string ⟨#[118,103]⟩,.int .u64 0,.int .i64 0,.int .i64 1,.int .i64 0,.slice none 0 0,.slice (some ⟨w.heap.size+1,0,none⟩) 2 2,.slice none 0 0,.slice none 0 0] 31 (0,0)):=by
  rw [<- hW5,cj _ _ _ (by simp <;> omega)];exact lZ (by simp)
 have h3:W5.heap[w.heap.size+1+1+1]?=some (.cells #[.int .i64 1,.int .i64 1,.int .i64 1,.int .i64 4,.string ⟨#[]⟩,.string ⟨#[]⟩,.string ⟨#[115,105,116,101,61]⟩] 35 (0,0)):=by
  rw [<- hW5];exact lZ (by simp)
 clear hW5;have ht:ck aF 1 (fun _=>True) W5 [.slice (some ⟨w.heap.size,0,none⟩) 1 1] [P7]:=ck.one (u:=[.string P7]) h0 trivial rfl rfl
 have hd:ck aO 7 (fun _=>True) W5 [.slice (some ⟨w.heap.size+1,0,none⟩) 2 2] iU.Gb:=⟨_,2,rfl,by decide,by decide,fun _=>⟨_,0,rfl,aq h1,trivial,fun i x hx=>by
  match i,hx with
  | 0,hx =>
   obtain rfl:=gj hx;refine ⟨[.string ⟨#[97]⟩,.int .u64 1,.int .i64 0,.int .i64 4,.bool false,.bool false,.slice (some ⟨w.heap.size,0,none⟩) 1 1],rfl,⟨_,rfl,ht⟩,fun j z hz=>?_⟩;simp only [World.cell?,h1]
   match j,hz with
   | 0,hz=>simpa using hz
   | 1,hz=>simpa using hz
   | 2,hz=>simpa using hz
   | 3,hz=>simpa using hz
   | 4,hz=>simpa using hz
   | 5,hz=>simpa using hz
   | 6,hz=>simpa using hz
   | j+7,hz=>simp at hz
  | 1,hx =>
   obtain rfl:=gj hx;refine ⟨[.string ⟨#[98]⟩,.int .u64 2,.int .i64 0,.int .i64 4,.bool false,.bool false,.slice none 0 0],rfl,⟨_,rfl,ck.nil⟩,fun j z hz=>?_⟩;simp only [World.cell?,h1]
   match j,hz with
   | 0,hz=>simpa using hz
   | 1,hz=>simpa using hz
   | 2,hz=>simpa using hz
   | 3,hz=>simpa using hz
   | 4,hz=>simpa using hz
   | 5,hz=>simpa using hz
   | 6,hz=>simpa using hz
   | j+7,hz=>simp at hz
  | i+2,hx=>simp [iU] at hx⟩⟩
 have hgr:dN (fun _=>True) W5 iU ⟨none,0,some ⟨w.heap.size+1,0,none⟩,2,none,0,none,0⟩:=⟨ck.nil,hd,ck.nil,ck.nil⟩
 have gL:∀ (W:World),W.heap[w.heap.size+1+1]?=W5.heap[w.heap.size+1+1]?->∀ (j:Nat) (z:Value),[.string ⟨#[118,103]⟩,.int .u64 0,.int .i64 0,.int .i64 1,.int .i64 0,.slice none 0 0,.slice (some ⟨w.heap.size+1,0,none⟩) 2 2,.slice none 0 0,.slice none 0 0][j]?=some z->W.cell? ⟨w.heap.size+1+1,j,none⟩=some z:=fun W e j z hz=>by
  simp only [World.cell?,e,h2];simpa using hz
 have rL:∀ (W:World),W.heap[w.heap.size+1+1+1]?=W5.heap[w.heap.size+1+1+1]?->∀ (j:Nat) (z:Value),[.int .i64 1,.int .i64 1,.int .i64 1,.int .i64 4,.string ⟨#[]⟩,.string ⟨#[]⟩,.string ⟨#[115,105,116,101,61]⟩][j]?=some z->W.cell? ⟨w.heap.size+1+1+1,j,none⟩=some z:=fun W e j z hz=>by
  simp only [World.cell?,e,h3];simpa using hz
 have hz2:=aq h2;have hz3:=aq h3;have Lm:=aa hgr;have eK:=aa b5;have Qz:=aa gL;have Zq:=aa rL;clear hgr hd ht h0 h1 h2 h3 b5;have gA:=gL W5 rfl;obtain ⟨g0,g1,g2,g3,g4,g5,g6,g7,g8⟩:=xr gA;have rA:=rL W5 rfl;obtain ⟨r0,r1,r2,r3,r4,r5,r6⟩:=se rA;clear gL rL gA rA;have HP:=aa (jk iU ⟨none,0,some ⟨w.heap.size+1,0,none⟩,2,none,0,none,0⟩ rC W5 Lm.o EC Ec (MD.o.below eK.o))
 go_wp2_with fail
 clear g0 g1 g2 g3 g4 g5 g6 g7 g8 r0 r1 r2 r3 r4 r5 r6;refine HP.o.mono ?_;clear HP;intro e w6 hp;obtain ⟨xv,xs,rfl,OA,-,vh,hb6⟩:=hp.form;rw [xO,aw rfl] at vh;rw [xO];obtain ⟨px,cx,rfl,_,_⟩:=OA.cap;have Tn:xs.length=2:=vh;rw [Tn];clear OA vh Tn hp;have qs:=aa (eK.o.trans (hb6.mono eK.o.size));have Tp:=aa (Lm.o.mv (ok':=fun _=>True) ⟨hb6.size,fun b hb _=>⟨trivial,hb6.block b hb⟩⟩);have gA:=Qz.o w6 (hb6.block _ hz2);obtain ⟨g0,g1,g2,g3,g4,g5,g6,g7,g8⟩:=xr gA;have rA:=Zq.o w6 (hb6.block _ hz3);obtain ⟨r0,r1,r2,r3,r4,r5,r6⟩:=se rA;have XO:=aa (hb6.block _ hz2);have XP:=aa (hb6.block _ hz3);have hsz6:=hb6.size;clear gA rA hb6
 have nt:∀ d∈iU.Gb,d.tags.length<=1000000/\d.name.size<=1000000:=fun d hd=>by
  simp only [iU,dr,cY,dg] at hd;rcases hd with rfl | rfl <;> decide
 have Oj:=aa nt;clear nt;have HC0:=aa (ug iU ⟨none,0,some ⟨w.heap.size+1,0,none⟩,2,none,0,none,0⟩ rC 0 w6 Tp.o.Gb (by decide) Oj.o (by decide))
 go_wp2_with fail
 clear g0 g1 g2 g3 g4 g5 g6 g7 g8 r0 r1 r2 r3 r4 r5 r6;refine HC0.o.mono ?_;clear HC0;rintro e w7 ⟨rfl,hb7⟩;rw [Et];have wk:=aa (qs.o.trans (hb7.mono qs.o.size));have XQ:=aa (Tp.o.mv (ok':=fun _=>True) ⟨hb7.size,fun b hb _=>⟨trivial,hb7.block b hb⟩⟩);have gA:=Qz.o w7 ((hb7.block _ (by omega)).trans XO.o);obtain ⟨g0,g1,g2,g3,g4,g5,g6,g7,g8⟩:=xr gA;have rA:=Zq.o w7 ((hb7.block _ (by omega)).trans XP.o);obtain ⟨r0,r1,r2,r3,r4,r5,r6⟩:=se rA;clear gA rA hb7;have HC1:=aa (ug iU ⟨none,0,some ⟨w.heap.size+1,0,none⟩,2,none,0,none,0⟩ rC 1 w7 XQ.o.Gb (by decide) Oj.o (by decide));have hs1:(P7.toList == [115,105,116,101,61,49])=true:=by simp [P7]
 go_wp2_with fail
 clear g0 g1 g2 g3 g4 g5 g6 g7 g8 r0 r1 r2 r3 r4 r5 r6;refine HC1.o.mono ?_;clear HC1;rintro e w8 ⟨rfl,hb8⟩;rw [Eb];have Ix:=aa (wk.o.trans (hb8.mono wk.o.size));clear hb8;go_wp2;go_ret;exact ⟨rfl,Ix.o⟩
def Ho (ok:Nat->Prop)(l:List az)(nm:ByteArray)(w:World)(e:Ending)(w':World):Prop:=∃ (u:List Value) (k:Int),e=.returned (.tuple #[.agg u.toArray,.int .i64 k])/\aO ok w' u ((bH l nm).getD gT)/\decide (k<0)=!(bH l nm).isSome/\Below w.heap.size w w'
theorem GK {ok:Nat->Prop}(g:af)(a:bN)(nm:ByteArray)(w:World)(hr:ck aO 7 ok w [.slice a.dp g.Gb.length a.dc] g.Gb)(hd:g.Gb.length<=1000000) :
  Calls prog 60 #[.agg #[.string g.name,.int .u64 g.id,.int .i64 g.seq,.int .i64 g.Gd,.int .i64 g.next,.slice a.tp g.tags.length a.tc,.slice a.dp g.Gb.length a.dc,.slice a.vp g.F9.length a.vc,.slice a.hp g.history.length a.hc],.string nm] w (Ho ok g.Gb nm w):=by
 have HR:=aa hr;clear hr;have hA1:=ae w (.cells #[.string g.name,.int .u64 g.id,.int .i64 g.seq,.int .i64 g.Gd,.int .i64 g.next,.slice a.tp g.tags.length a.tc,.slice a.dp g.Gb.length a.dc,.slice a.vp g.F9.length a.vc,.slice a.hp g.history.length a.hc] 31);have hN1:=b9 w (.cells #[.string g.name,.int .u64 g.id,.int .i64 g.seq,.int .i64 g.Gd,.int .i64 g.next,.slice a.tp g.tags.length a.tc,.slice a.dp g.Gb.length a.dc,.slice a.vp g.F9.length a.vc,.slice a.hp g.history.length a.hc] 31);have hA2:=ae (w.alloc (.cells #[.string g.name,.int .u64 g.id,.int .i64 g.seq,.int .i64 g.Gd,.int .i64 g.next,.slice a.tp g.tags.length a.tc,.slice a.dp g.Gb.length a.dc,.slice a.vp g.F9.length a.vc,.slice a.hp g.history.length a.hc] 31)) (.cells #[.string ⟨#[]⟩,.int .u64 0,.int .i64 0,.int .i64 0,.bool false,.bool false,.slice none 0 0] 47);have hN2:=b9 (w.alloc (.cells #[.string g.name,.int .u64 g.id,.int .i64 g.seq,.int .i64 g.Gd,.int .i64 g.next,.slice a.tp g.tags.length a.tc,.slice a.dp g.Gb.length a.dc,.slice a.vp g.F9.length a.vc,.slice a.hp g.history.length a.hc] 31)) (.cells #[.string ⟨#[]⟩,.int .u64 0,.int .i64 0,.int .i64 0,.bool false,.bool false,.slice none 0 0] 47);rw [cW] at hN2;have JW:=aa ((hA2.block _ (aq hN1)).trans hN1);have yi:=aa hN2;have cU:=aa (hA1.trans (hA2.mono hA1.size));clear hA1 hA2 hN1 hN2;go_enter func60,ntmps60
 go_upto_region 2 with (fail)
 generalize hW1:World.alloc (World.alloc w _) _=W1 at *;generalize Rz:w.heap.size+1=Br at *;generalize LY:w.heap.size=Bg at *;have pd:Hid (Below w.heap.size w W1):=aa (by rw [LY];exact cU.o);clear hW1 cU;have g6:=cr JW.o 6 _ rfl
 have rL:=cr yi.o
 obtain ⟨r0,r1,r2,r3,r4,r5,r6⟩:=se rL;have rf:=sr yi.o
 clear rL;have hL:∀ (V:World) (o:Nat) (z:Value),Below w.heap.size w V->Below w.heap.size w (V.setCell ⟨Br,o,none⟩ z):=fun V o z q=>q.setCell (p:=⟨Br,o,none⟩) (by show w.heap.size<=Br;omega) z;have HL:=aa hL;clear hL
 go_loop [6] (fun i=>∃ k:Nat,k<=g.Gb.length/\i=.int .i64 k/\∀ (j:Nat) (D:az),j<k->g.Gb[j]?=some D->¬ D.name=nm) (fun i=>g.Gb.length - (intOf i).toNat)
 case atStart=>exact ⟨0,cg _,rfl,fun j D hj=>by omega⟩
 case round =>
  obtain ⟨k,hk,rfl,hno⟩:=hrel;have IW:=aa hno;clear hno
  by_cases hlt:k<g.Gb.length
  ·obtain ⟨d,hv⟩:=aj g.Gb k hlt
   obtain ⟨b,off,u,hsp,gR,cX,ez,sA,hcv⟩:=HR.o.elem hv;have My:=aa sA;obtain ⟨tv,rfl,ew⟩:=sA;obtain ⟨tp,tc,rfl,_,_⟩:=ew.cap;clear ew;have cT:=pd.o.block b cX;rw [hsp] at g6;clear hsp;obtain ⟨q0,q1,q2,q3,q4,q5,q6⟩:=OD cT hcv;have HD:=aa hv;clear hv;clear hcv ez cT
   by_cases pD:d.name=nm
   ·have e1:(d.name.toList == nm.toList)=true:=by rw [pD];simp
    have CM:Hid (bH g.Gb nm=some d):=aa (pR IW.o HD.o pD);have Mr:=aa pD;clear pD
    have I4:Hid (∀ wf:World,Below w.heap.size w wf->Ho ok g.Gb nm w (.returned (.tuple #[.agg #[.string d.name,.int .u64 d.id,.int .i64 d.first,.int .i64 d.Gc,.bool d.closed,.bool d.missing,.slice tp d.tags.length tc],.int .i64 k])) wf):=aa fun wf hb =>
     ⟨[.string d.name,.int .u64 d.id,.int .i64 d.first,.int .i64 d.Gc,.bool d.closed,.bool d.missing,.slice tp d.tags.length tc],k,rfl,by rw [CM.o];exact aO.moves.mv ⟨hb.size,fun b hb' ho=>⟨ho,hb.block b hb'⟩⟩ My.o,by rw [CM.o];simp,hb⟩
    go_wp2;refine eC (v:=.tuple #[.agg #[.string d.name,.int .u64 d.id,.int .i64 d.first,.int .i64 d.Gc,.bool d.closed,.bool d.missing,.slice tp d.tags.length tc],.int .i64 k]) (by simp [results,Tryz.results60,go_sem,r0,r1,r2,r3,r4,r5,r6]) rfl (I4.o _ ?_);exact (HL.o _ _ _ (HL.o _ _ _ (HL.o _ _ _ (HL.o _ _ _ (HL.o _ _ _ (HL.o _ _ _ (HL.o _ _ _ pd.o)))))))
   ·have e1:=jI pD
    have HNN:Hid (∀ (j:Nat) (D:az),j<k+1->g.Gb[j]?=some D->¬ D.name=nm):=aa fun j D hj hD=>by
     by_cases hjk:j=k
     ·subst hjk
      rw [HD.o] at hD;injection hD with hD
      rw [<- hD];exact pD
     ·exact IW.o j D (by omega) hD
    clear pD;go_wp2;go_round
    case rel=>exact ⟨k+1,by omega,by go_num,HNN.o⟩
    case measure=>simp [intOf];omega
  ·obtain rfl:k=g.Gb.length:=by omega
   have CM:Hid (bH g.Gb nm=none):=aa (ui IW.o)
   have I4:Hid (∀ wf:World,Below w.heap.size w wf->Ho ok g.Gb nm w (.returned (.tuple #[.agg #[.string ⟨#[]⟩,.int .u64 0,.int .i64 0,.int .i64 0,.bool false,.bool false,.slice none 0 0],.int .i64 (-1)])) wf):=aa fun wf hb =>
    ⟨[.string ⟨#[]⟩,.int .u64 0,.int .i64 0,.int .i64 0,.bool false,.bool false,.slice none 0 0],-1,rfl,by rw [CM.o];exact ⟨_,rfl,ck.nil⟩,by rw [CM.o];rfl,hb⟩
   go_wp2;refine eC (v:=.tuple #[.agg #[.string ⟨#[]⟩,.int .u64 0,.int .i64 0,.int .i64 0,.bool false,.bool false,.slice none 0 0],.int .i64 (-1)]) (by simp [results,Tryz.results60,go_sem,r0,r1,r2,r3,r4,r5,r6]) rfl (I4.o _ ?_);exact (HL.o _ _ _ (HL.o _ _ _ (HL.o _ _ _ (HL.o _ _ _ (HL.o _ _ _ (HL.o _ _ _ (HL.o _ _ _ pd.o)))))))
def Ar (d:az):List (Int × Int):=[(0,max d.Gc 0)]
theorem bM.one {w:World}{b:Nat}{p:Int × Int}(B:Nat)(hB:B<=b)(h:w.heap[b]?=some (.cells #[.int .i64 p.1,.int .i64 p.2] 62 (0,0))):xo w (.slice (some ⟨b,0,none⟩) 1 1) [p] :=
 ⟨_,1,rfl,by simp,by omega,fun _=>⟨b,0,rfl,aq h,fun i q hq=>by
  match i,hq with
  | 0,hq =>
   obtain rfl:p=q:=by simpa using hq
   exact ⟨cr h _ _ rfl,cr h _ _ rfl⟩
  | i+1,hq=>simp at hq⟩⟩
theorem GQ (d:az)(tp:Option Addr)(tc:Nat)(w:World) :
  Calls prog 61 #[.agg #[.string d.name,.int .u64 d.id,.int .i64 d.first,.int .i64 d.Gc,.bool d.closed,.bool d.missing,.slice tp d.tags.length tc]] w fun e w'=>∃ v,e=.returned v/\xo w' v (Ar d)/\Below w.heap.size w w':=by
 have hA:=ae w (.cells #[.string d.name,.int .u64 d.id,.int .i64 d.first,.int .i64 d.Gc,.bool d.closed,.bool d.missing,.slice tp d.tags.length tc] 47);have sX:=aa (b9 w (.cells #[.string d.name,.int .u64 d.id,.int .i64 d.first,.int .i64 d.Gc,.bool d.closed,.bool d.missing,.slice tp d.tags.length tc] 47));have HB:=aa hA;clear hA;have HW:Hid (Ar d=[(0,max d.Gc 0)]):=aa rfl;go_enter func61,ntmps61
 go_upto_region 1 with (fail)
 generalize hW1:World.alloc w _=W1 at *;have Ks:=HB;clear hW1 HB;have d3:=cr sX.o 3 _ rfl
 by_cases h:0<=d.Gc
 ·have hm:max d.Gc 0=d.Gc:=by omega
  rw [hm] at HW;go_wp2;go_ret;exact ⟨_,rfl,by rw [HW.o];exact bM.one (p:=(0,d.Gc)) 0 (cg _) (b9 W1 _),Ks.o.alloc Ks.o.size _⟩
 ·have hm:max d.Gc 0=0:=by omega
  rw [hm] at HW;go_wp2;go_ret;exact ⟨_,rfl,by rw [HW.o];exact bM.one (p:=(0,0)) 0 (cg _) (b9 W1 _),Ks.o.alloc Ks.o.size _⟩
def Gq (nm:ByteArray)(ps:List gy):List (Int × Int):=ps.filterMap fun p=>if p.disk=nm then some (p.start,p.len) else none
theorem Hl (nm:ByteArray){ps:List gy}{k:Nat}{x:gy}(h:ps[k]?=some x):Gq nm (ps.take (k+1))=Gq nm (ps.take k)++if x.disk=nm then [(x.start,x.len)] else []:=by
 rw [take_snoc' ps k x h];unfold Gq;rw [E0]
 congr 1
 by_cases c:x.disk=nm
 ·rw [aw c];simp [c]
 ·rw [bh c,List.filterMap_cons,bh c];rfl
theorem H8 (nm:ByteArray)(ps:List gy):(Gq nm ps).length<=ps.length:=List.length_filterMap_le _ _
theorem GU {nm:ByteArray}{ps:List gy}{q:Int × Int}(h:q∈Gq nm ps):∃ p∈ps,p.disk=nm/\q=(p.start,p.len):=by
 obtain ⟨p,hp,e⟩:=List.mem_filterMap.1 h;split at e
 ·rename_i c
  exact ⟨p,hp,c,(gj e).symm⟩
 ·cases e
theorem Ia {nm:ByteArray}{ps:List gy}(hs:∀ p∈ps,0<=p.start/\p.start<=1000000)(hl:∀ p∈ps,0<=p.len/\p.len<=1000000):dI (Gq nm ps)=true:=by
 unfold dI;rw [eL];intro q hq;obtain ⟨p,hp,_,rfl⟩:=GU hq;have:=hs p hp;have:=hl p hp;simp only [nT,eh,fk];omega
theorem Hw {nm:ByteArray}{ps:List gy}{ext:Int}(hs:∀ p∈ps,0<=p.start)(n:Int):(Mem (Gq nm ps) n/\(0<=n/\n<ext))↔Mem (fM nm ext ps) n:=by
 constructor
 ·rintro ⟨⟨q,hq,q1,q2⟩,h0,h1⟩
  obtain ⟨p,hp,hd,rfl⟩:=GU hq;have:=hs p hp;dsimp only at q1 q2;refine ⟨(p.start,min p.len (ext - p.start)),List.mem_filterMap.2 ⟨p,hp,aw ⟨hd,by omega,by omega,by omega⟩⟩,q1,?_⟩;dsimp only;omega
 ·rintro ⟨q,hq,q1,q2⟩
  obtain ⟨p,hp,e⟩:=List.mem_filterMap.1 hq;split at e
  ·rename_i c
   obtain rfl:=gj e;dsimp only at q1 q2;exact ⟨⟨(p.start,p.len),List.mem_filterMap.2 ⟨p,hp,aw c.1⟩,q1,by dsimp only;omega⟩,by omega,by omega⟩
  ·cases e
theorem Gy {d:az}(h:0<=d.Gc)(n:Int):Mem (Ar d) n↔0<=n/\n<d.Gc:=by
 unfold Ar;rw [ko];dsimp only;omega
theorem GI {d:az}(h:0<=d.Gc/\d.Gc<=1000000):dI (Ar d)=true:=by
 simp only [Ar,dI,List.all_cons,List.all_nil,Bool.and_true,nT,eh,fk];omega
def Aw (Gb:List az)(S:az->Int->Prop)(N:Nat)(nm:ByteArray)(w:World)(e:Ending)(w':World):Prop:=match bH Gb nm with
 | none=>e=.returned (.tuple #[.slice none 0 0,.int .i64 12])/\Below w.heap.size w w'
 | some d=>∃ v x,e=.returned (.tuple #[v,.int .i64 0])/\bM w' w.heap.size v x/\iE x (S d)/\dI x=true/\x.length<=N/\Below w.heap.size w w'
theorem H6 {ok:Nat->Prop}(g:af)(a:bN)(nm:ByteArray)(w:World)(hr:ck aO 7 ok w [.slice a.dp g.Gb.length a.dc] g.Gb)(hd:g.Gb.length<=1000)(vu:∀ D∈g.Gb,0<=D.Gc/\D.Gc<=1000000)
  (hv:ck aN 6 ok w [.slice a.vp g.F9.length a.vc] g.F9) (mb:g.F9.length<=1000) (ht:qx g.F9) (CH:∀ p∈pieces g.F9,0<=p.start/\p.start<=1000000) (hpl:∀ p∈pieces g.F9,0<=p.len/\p.len<=1000000) (Ji:(pieces g.F9).length<=100000) :
  Calls prog 59 #[.agg #[.string g.name,.int .u64 g.id,.int .i64 g.seq,.int .i64 g.Gd,.int .i64 g.next,.slice a.tp g.tags.length a.tc,.slice a.dp g.Gb.length a.dc,.slice a.vp g.F9.length a.vc,.slice a.hp g.history.length a.hc],.string nm] w (Aw g.Gb (fun d n=>Mem (fM nm d.Gc (pieces g.F9)) n) 200002 nm w):=by
 have HR:=aa hr;clear hr;have HV:=aa hv;clear hv;have HT:=aa ht;clear ht;have sY:=aa CH;clear CH;have RL:=aa hpl;clear hpl;have kj:=aa vu;clear vu;have Kt:=aa (ae w (.cells #[.string g.name,.int .u64 g.id,.int .i64 g.seq,.int .i64 g.Gd,.int .i64 g.next,.slice a.tp g.tags.length a.tc,.slice a.dp g.Gb.length a.dc,.slice a.vp g.F9.length a.vc,.slice a.hp g.history.length a.hc] 31));have CN:=aa (b9 w (.cells #[.string g.name,.int .u64 g.id,.int .i64 g.seq,.int .i64 g.Gd,.int .i64 g.next,.slice a.tp g.tags.length a.tc,.slice a.dp g.Gb.length a.dc,.slice a.vp g.F9.length a.vc,.slice a.hp g.history.length a.hc] 31))
 have gL:=cr CN.o
 go_enter func59,ntmps59
 go_upto_region 1 with (fail)
 generalize hW1:World.alloc w _=W1 at *;obtain ⟨g0,g1,g2,g3,g4,g5,g6,g7,g8⟩:=xr gL;clear gL hW1;have Tq:=aa (GK (ok:=ok) g a nm W1 ((ck.moves aO.moves).mv (Mv.of Kt.o) HR.o) (by omega))
 go_wp2_with fail
 clear g0 g1 g2 g3 g4 g5 g6 g7 g8;refine Tq.o.mono ?_;clear Tq;rintro e w2 ⟨u,k,rfl,Qw,JH,hb2⟩;have cm:=aa (Kt.o.trans (hb2.mono Kt.o.size));have pH:=aa ((hb2.block _ (aq CN.o)).trans CN.o);obtain ⟨tv,rfl,ew⟩:=Qw;obtain ⟨tp,tc,rfl,_,_⟩:=ew.cap;clear ew hb2;cases hf:bH g.Gb nm with
 | none =>
  rw [hf] at JH;have hk0:k<0:=by simpa using JH
  have PV:Hid (∀ e' w',Aw g.Gb (fun d n=>Mem (fM nm d.Gc (pieces g.F9)) n) 200002 nm w e' w'=(e'=.returned (.tuple #[.slice none 0 0,.int .i64 12])/\Below w.heap.size w w')):=aa fun e' w'=>by unfold Aw;rw [hf]
  simp only [Option.getD_none];clear hf JH;generalize gT=d at *;have hA:=ae w2 (.cells #[.string d.name,.int .u64 d.id,.int .i64 d.first,.int .i64 d.Gc,.bool d.closed,.bool d.missing,.slice tp d.tags.length tc] 47);have cJ:=aa (cm.o.trans (hA.mono cm.o.size));clear hA;go_wp2;go_ret2;rw [PV.o];exact ⟨rfl,cJ.o⟩
 | some d =>
  rw [hf] at JH;have hk0:¬ k<0:=by simpa using JH
  have PV:Hid (∀ e' w',Aw g.Gb (fun d n=>Mem (fM nm d.Gc (pieces g.F9)) n) 200002 nm w e' w'=(∃ v x,e'=.returned (.tuple #[v,.int .i64 0])/\bM w' w.heap.size v x/\iE x (fun n=>Mem (fM nm d.Gc (pieces g.F9)) n)/\dI x=true/\x.length<=200002/\Below w.heap.size w w')):=aa fun e' w'=>by unfold Aw;rw [hf]
  have vu:=kj.o d (eV hf);have Tr:=aa vu;clear vu;simp only [Option.getD_some];clear hf JH;have hA:=ae w2 (.cells #[.string d.name,.int .u64 d.id,.int .i64 d.first,.int .i64 d.Gc,.bool d.closed,.bool d.missing,.slice tp d.tags.length tc] 47);have sX:=aa (b9 w2 (.cells #[.string d.name,.int .u64 d.id,.int .i64 d.first,.int .i64 d.Gc,.bool d.closed,.bool d.missing,.slice tp d.tags.length tc] 47));have cJ:=aa (cm.o.trans (hA.mono cm.o.size));have LS:=aa ((hA.block _ (aq pH.o)).trans pH.o);clear hA cm pH
  go_upto_region 5 with (fail)
  generalize hW3:World.alloc w2 _=W3 at *;generalize J6:w2.heap.size=Bd at *;clear hW3
  have gL:=cr LS.o
  obtain ⟨g0,g1,g2,g3,g4,g5,g6,g7,g8⟩:=xr gL;clear gL;have SB:=aa (Hg (ok:=ok) g.name g.id g.seq g.Gd g.next a.tp a.dp a.vp a.hp g.tags.length a.tc g.Gb.length a.dc a.vc g.history.length a.hc g.F9 W3 ((ck.moves aN.moves).mv (Mv.of cJ.o) HV.o) mb HT.o Ji)
  go_wp2_with fail
  clear g0 g1 g2 g3 g4 g5 g6 g7 g8;refine SB.o.mono ?_;clear SB;rintro e w4 ⟨pv,rfl,hop,hb4⟩;have kf:ck Gt 4 (fun _=>True) w4 [pv] (pieces g.F9):=hop.rd Gt.moves (by decide) (fun _ _ _=>trivial) (fun _ _=>trivial);have eI:=aa (cJ.o.trans (hb4.mono cJ.o.size));have KJ:=aa ((hb4.block _ (aq sX.o)).trans sX.o);clear hop hb4;obtain ⟨pp,pc,rfl,Wl,Wm⟩:=kf.cap;have B2:=aa kf;clear kf;have hsz4:=eI.o.size
  go_upto_region 7 with (fail)
  go_loopw [8,10] (fun lv i wr=>∃ k:Nat,k<=(pieces g.F9).length/\i=.int .i64 k/\bM wr w4.heap.size lv (Gq nm ((pieces g.F9).take k))/\Below w4.heap.size w4 wr) (fun _ i _=>(pieces g.F9).length - (intOf i).toNat)
  case atStart=>exact ⟨0,cg _,rfl,bM.nil _ _,bj _ _⟩
  case round =>
   obtain ⟨m,hm,rfl,hown,hB⟩:=hrel;have HOW:=aa hown;clear hown;have HB:=aa hB;clear hB;have hbl:=H8 nm ((pieces g.F9).take m);rw [ey] at hbl;have LZ:=HB.o.size
   by_cases hlt:m<(pieces g.F9).length
   ·obtain ⟨x,hx⟩:=aj (pieces g.F9) m hlt
    obtain ⟨b,off,us,hsp,gR,cX,ez,eE,hcv⟩:=B2.o.elem hx;subst hsp;obtain rfl:us=_:=eE;have cT:=HB.o.block b cX;obtain ⟨q0,q1,q2,q3⟩:=sw4 cT hcv;have JO:=aa (Hl nm hx);clear hx hcv ez cT
    by_cases pD:x.disk=nm
    ·have e1:(x.disk.toList == nm.toList)=true:=by rw [pD];simp
     rw [aw pD] at JO;clear pD
     go_wp2_with (at_builtin;refine jg rfl _ _ rfl w4.heap.size _ (Gq nm ((pieces g.F9).take m)) (x.start,x.len) rfl ?c1 wr.heap.size 1 rfl ?c2 ?c3 ?c4 ?c5 ?_)
     case c1=>exact HOW.o.below (ae _ _)
     all_goals first | (case c2=>exact aD rfl rfl) | (case c3=>exact aD rfl rfl) | (case c4=>omega) | (case c5=>simp;omega) | skip
     intro v' w6 hown1 hb1 _;have qs:=aa ((HB.o.alloc LZ _).trans hb1);have HOW6:=aa hown1;clear hb1 hown1;go_wp2;go_roundw
     case rel=>exact ⟨m+1,by omega,by go_num,by rw [JO.o];exact HOW6.o,qs.o⟩
     case measure=>simp [intOf];omega
    ·have e1:=jI pD
     rw [bh pD,eM] at JO;clear pD;go_wp2;go_roundw
     case rel=>exact ⟨m+1,by omega,by go_num,by rw [JO.o];exact HOW.o,HB.o⟩
     case measure=>simp [intOf];omega
   ·obtain rfl:m=(pieces g.F9).length:=by omega
    rw [cI] at HOW hbl;have pB:=(HB.o.block _ (aq KJ.o)).trans KJ.o
    have dL:=cr pB
    obtain ⟨d0,d1,d2,d3,d4,d5,d6⟩:=se dL;clear dL pB;have fy:Hid (Below w.heap.size w wr):=aa (eI.o.trans (HB.o.mono hsz4));have Ts:=aa (GQ d tp tc wr)
    go_wp2_with fail
    clear d0 d1 d2 d3 d4 d5 d6;refine Ts.o.mono ?_;clear Ts;rintro e w7 ⟨v7,rfl,hr7,hb7⟩;have wk:=aa (fy.o.trans (hb7.mono fy.o.size));have JL:=aa (Gn (Gq nm (pieces g.F9)) (Ar d) 2 (.inr (.inr rfl)) _ v7 w7 (HOW.o.below hb7).rd hr7 (Ia sY.o RL.o) (GI Tr.o) (by omega) (by simp [Ar]));obtain ⟨p7,c7,rfl,_,_,_⟩:=hr7;have hsz7:=wk.o.size;clear hb7
    go_wp2_with fail
    refine JL.o.mono ?_;clear JL;rintro e w8 ⟨v8,x8,rfl,ho8,hn8,hv8,hl8,hb8⟩;have HO8:=aa (ho8.mono hsz7);clear ho8;have XR:=aa hn8;clear hn8;have O8:=aa hv8;clear hv8;have Ix:=aa (wk.o.trans (hb8.mono hsz7));clear hb8;have hl9:x8.length<=200002:=by simp only [Ar,cS,gi] at hl8;omega
    go_wp2;go_ret2;rw [PV.o];refine ⟨v8,x8,rfl,HO8.o,XR.o.congr fun n=>?_,O8.o,hl9,Ix.o⟩;rw [<- Hw (fun p hp=>(sY.o p hp).1) n];have hw:=Gy Tr.o.1 n;simp only [GN,show ¬ (2:Int)=0 by omega,show ¬ (2:Int)=1 by omega,fY,eh,fe,hw]
theorem Ie {ok:Nat->Prop}(g:af)(a:bN)(nm:ByteArray)(w:World)(hr:ck aO 7 ok w [.slice a.dp g.Gb.length a.dc] g.Gb)(hd:g.Gb.length<=1000)(vu:∀ D∈g.Gb,0<=D.Gc/\D.Gc<=1000000)
  (hv:ck aN 6 ok w [.slice a.vp g.F9.length a.vc] g.F9) (mb:g.F9.length<=1000) (ht:qx g.F9) (CH:∀ p∈pieces g.F9,0<=p.start/\p.start<=1000000) (hpl:∀ p∈pieces g.F9,0<=p.len/\p.len<=1000000) (Ji:(pieces g.F9).length<=100000) :
  Calls prog 23 #[.agg #[.string g.name,.int .u64 g.id,.int .i64 g.seq,.int .i64 g.Gd,.int .i64 g.next,.slice a.tp g.tags.length a.tc,.slice a.dp g.Gb.length a.dc,.slice a.vp g.F9.length a.vc,.slice a.hp g.history.length a.hc],.string nm] w (Aw g.Gb (fun d n=>(0<=n/\n<d.Gc)/\¬ Mem (fM nm d.Gc (pieces g.F9)) n) 400006 nm w):=by
 have HR:=aa hr;clear hr;have HV:=aa hv;clear hv;have kj:=aa vu;have Kt:=aa (ae w (.cells #[.string g.name,.int .u64 g.id,.int .i64 g.seq,.int .i64 g.Gd,.int .i64 g.next,.slice a.tp g.tags.length a.tc,.slice a.dp g.Gb.length a.dc,.slice a.vp g.F9.length a.vc,.slice a.hp g.history.length a.hc] 31));have CN:=aa (b9 w (.cells #[.string g.name,.int .u64 g.id,.int .i64 g.seq,.int .i64 g.Gd,.int .i64 g.next,.slice a.tp g.tags.length a.tc,.slice a.dp g.Gb.length a.dc,.slice a.vp g.F9.length a.vc,.slice a.hp g.history.length a.hc] 31))
 have gL:=cr CN.o
 go_enter func23,ntmps23
 go_upto_region 1 with (fail)
 generalize hW1:World.alloc w _=W1 at *;obtain ⟨g0,g1,g2,g3,g4,g5,g6,g7,g8⟩:=xr gL;clear gL hW1;have Zr:=aa (H6 (ok:=ok) g a nm W1 ((ck.moves aO.moves).mv (Mv.of Kt.o) HR.o) hd vu ((ck.moves aN.moves).mv (Mv.of Kt.o) HV.o) mb ht CH hpl Ji);clear vu ht CH hpl
 go_wp2_with fail
 clear g0 g1 g2 g3 g4 g5 g6 g7 g8;refine Zr.o.mono ?_;clear Zr;intro e w2 hu;unfold Aw at hu;cases hf:bH g.Gb nm with
 | none =>
  rw [hf] at hu;obtain ⟨rfl,hb2⟩:=hu;have PV:Hid (∀ e' w',Aw g.Gb (fun d n=>(0<=n/\n<d.Gc)/\¬ Mem (fM nm d.Gc (pieces g.F9)) n) 400006 nm w e' w'=(e'=.returned (.tuple #[.slice none 0 0,.int .i64 12])/\Below w.heap.size w w')):=aa fun e' w'=>by unfold Aw;rw [hf]
  have cm:=aa (Kt.o.trans (hb2.mono Kt.o.size));clear hf hb2;go_wp2;go_ret2;rw [PV.o];exact ⟨rfl,cm.o⟩
 | some d =>
  rw [hf] at hu;obtain ⟨v,x,rfl,OA,UM,I2,vh,hb2⟩:=hu;have PV:Hid (∀ e' w',Aw g.Gb (fun d n=>(0<=n/\n<d.Gc)/\¬ Mem (fM nm d.Gc (pieces g.F9)) n) 400006 nm w e' w'=(∃ v x,e'=.returned (.tuple #[v,.int .i64 0])/\bM w' w.heap.size v x/\iE x (fun n=>(0<=n/\n<d.Gc)/\¬ Mem (fM nm d.Gc (pieces g.F9)) n)/\dI x=true/\x.length<=400006/\Below w.heap.size w w')):=aa fun e' w'=>by unfold Aw;rw [hf]
  have vu:=kj.o d (eV hf);have Tr:=aa vu;clear vu;have PW:=aa OA;clear OA;have HXN:=aa UM;clear UM;have OW:=aa I2;clear I2;have cm:=aa (Kt.o.trans (hb2.mono Kt.o.size));have pH:=aa ((hb2.block _ (aq CN.o)).trans CN.o);obtain ⟨px,cx,rfl,_,_,_⟩:=PW.o.rd;clear hb2
  have gL:=cr pH.o
  obtain ⟨g0,g1,g2,g3,g4,g5,g6,g7,g8⟩:=xr gL;clear gL;have Tq:=aa (GK (ok:=ok) g a nm w2 ((ck.moves aO.moves).mv (Mv.of cm.o) HR.o) (by omega))
  go_wp2_with fail
  clear g0 g1 g2 g3 g4 g5 g6 g7 g8;refine Tq.o.mono ?_;clear Tq;rintro e w3 ⟨u,k,rfl,Qw,_,hb3⟩;rw [hf] at Qw;clear hf;obtain ⟨tv,rfl,ew⟩:=Qw;obtain ⟨tp,tc,rfl,_,_⟩:=ew.cap;simp only [Option.getD_some];have hA:=ae w3 (.cells #[.string d.name,.int .u64 d.id,.int .i64 d.first,.int .i64 d.Gc,.bool d.closed,.bool d.missing,.slice tp d.tags.length tc] 47);have sX:=aa (b9 w3 (.cells #[.string d.name,.int .u64 d.id,.int .i64 d.first,.int .i64 d.Gc,.bool d.closed,.bool d.missing,.slice tp d.tags.length tc] 47));have hb4:=hb3.trans (hA.mono hb3.size);have eI:=aa (cm.o.trans (hb4.mono cm.o.size));have XS:=aa (PW.o.below hb4);clear hA hb3 hb4 ew PW
  go_upto_region 5 with (fail)
  generalize hW4:World.alloc w3 _=W4 at *;generalize J6:w3.heap.size=Bd at *;clear hW4
  have dL:=cr sX.o
  obtain ⟨d0,d1,d2,d3,d4,d5,d6⟩:=se dL;clear dL;have Ts:=aa (GQ d tp tc W4)
  go_wp2_with fail
  clear d0 d1 d2 d3 d4 d5 d6;refine Ts.o.mono ?_;clear Ts;rintro e w7 ⟨v7,rfl,hr7,hb7⟩;have wk:=aa (eI.o.trans (hb7.mono eI.o.size));have JL:=aa (Gn (Ar d) x 1 (.inr (.inl rfl)) v7 _ w7 hr7 (XS.o.below hb7).rd (GI Tr.o) OW.o (by simp [Ar]) (by omega));obtain ⟨p7,c7,rfl,_,_,_⟩:=hr7;have hsz7:=wk.o.size;clear hb7
  go_wp2_with fail
  refine JL.o.mono ?_;clear JL;rintro e w8 ⟨v8,x8,rfl,ho8,hn8,hv8,hl8,hb8⟩;have HO8:=aa (ho8.mono hsz7);clear ho8;have XR:=aa hn8;clear hn8;have O8:=aa hv8;clear hv8;have Ix:=aa (wk.o.trans (hb8.mono hsz7));clear hb8;have hl9:x8.length<=400006:=by simp only [Ar,cS,gi] at hl8;omega
  go_wp2;go_ret2;rw [PV.o];refine ⟨v8,x8,rfl,HO8.o,XR.o.congr fun n=>?_,O8.o,hl9,Ix.o⟩;have hw:=Gy Tr.o.1 n;have hx:=HXN.o.2 n;simp only [GN,show ¬ (1:Int)=0 by omega,fY,ej,eh,tz,fe,hw,Bool.eq_false_iff,ne_eq,hx]
end Go.Proofs.YtjdfihglehfelaaGreatDoor
