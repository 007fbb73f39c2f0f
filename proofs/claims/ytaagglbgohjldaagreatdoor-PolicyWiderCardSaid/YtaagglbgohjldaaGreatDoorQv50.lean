/- Lemmas: RpB, PolK, PwB, LaidS. -/
import Derived.Test.YtaagglbgohjldaaGreatDoorQv49
import Derived.Test.YtaagglbgohjldaaGreatDoorQv38
import Derived.LaidMore
import Derived.Stop.Joined
set_option maxRecDepth 100000
set_option maxHeartbeats 32000000
set_option linter.all false
namespace Go.Proofs.YtaagglbgohjldaaGreatDoor
open Go.Proofs.Tryz
open Go.RowKit Go.Maps Go.Shelf
variable {r:aY}{w w':World}{g:af}{vs:List Value}
theorem Gy :Dr r=false↔¬ ((1<=r.Gi/\r.Gi<=6)/\(1<=r.Gh/\r.Gh<=6)/\r.Gi*r.Gh<=6/\(1<=r.Gc/\r.Gc<=4096)):=by
 rw [<- Bool.not_eq_true];refine not_congr ?_;unfold Dr Ek;simp only [eh,fk];exact ⟨fun ⟨⟨⟨h1,h2⟩,h3⟩,h4⟩=>⟨h1,h2,h3,h4⟩,fun ⟨h1,h2,h3,h4⟩=>⟨⟨⟨h1,h2⟩,h3⟩,h4⟩⟩
theorem JG :Ek r.Gg 5=false↔¬ (1<=r.Gg/\r.Gg<=5):=by
 rw [<- Bool.not_eq_true];refine not_congr ?_;unfold Ek;simp only [eh,fk]
theorem GJ (s:ByteArray)(w:World)(hs:s.size<=9223372036854775807):Calls prog 38 #[.string s] w fun e w'=>e=.returned (.bool (mr s))/\Below w.heap.size w w' :=
 (Jz s w hs).mono fun _ _ ⟨h,e⟩=>⟨h,e ▸ bj _ _⟩
theorem Tcl {p:Prop}(h:p:=by
 go_wp2;go_ret;exact ⟨cz HE.o.symm,cm.o⟩):p:=h
theorem Tde {p:Prop}(h:p:=by rw [Gy];omega):p:=h
theorem Jt {ok:Nat->Prop}(g:af)(a:bN)(r:aY)(w:World)(hg:dN ok w g a)(hc:K5 g)(hr:dK r) :
  Calls prog 10 #[.agg (Tad g a),.agg (Tal r)] w fun e w'=>e=.returned (.int .i64 (yZ g r))/\Below w.heap.size w w':=by
 have Zu:Hid (r.tag.size<=9223372036854775807/\r.sep.size<=9223372036854775807):=aa ⟨hr.t,hr.q⟩;have HC:=aa hc;have HE:Hid (yZ g r=_):=aa (yZ.eq_1 g r);have mb:g.F9.length<=1000000:=hc.gi.sz.vl;have hA1:=ae w (.cells (Tad g a) 31);have hA2:=ae (w.alloc (.cells (Tad g a) 31)) (.cells (Tal r) 34);have hN1:=b9 w (.cells (Tad g a) 31);have LX:=aa (b9 (w.alloc (.cells (Tad g a) 31)) (.cells (Tal r) 34));have Mk:=aa ((hA2.block _ (aq hN1)).trans hN1);have HB:=aa (hA1.trans (hA2.mono hA1.size));have HG1:=aa (hg.mv (Mv.of HB.o));clear hA1 hA2 hN1 hg hc hr;rw [cW] at LX;go_enter func10,ntmps10
 go_upto_region 1 with (fail);generalize World.alloc (World.alloc w _) _=W1 at *;generalize hE1:w.heap.size+1=Bq at LX ⊢;generalize hE0:w.heap.size=Bg at Mk ⊢;clear hE1 hE0;have gL:=mi Mk.o;obtain ⟨g0,g1,g2,g3,g4,g5,g6,g7,g8⟩:=xr gL;clear gL;go_wp2_with fail;clear g0 g1 g2 g3 g4 g5 g6 g7 g8;refine (Ko g a W1 HG1.o HC.o).mono ?_;rintro e w2 ⟨rfl,hb2⟩;have aB0:=Zbk hb2 Mk;have aw7:=Zbk hb2 LX;have HG2:=aa (HG1.o.mv (Mv.of hb2));have cm:=Zbl HB hb2;clear hb2 Mk LX HG1 HB;have qL:=mi aw7.o;obtain ⟨q0,q1,q2,q3,q4,q5,q6⟩:=se qL;clear qL;by_cases c1:r.Gi<1
 ·replace HE:=aa (HE.o.trans (aw Tde));have d1:decide (r.Gi<1)=true:=eA c1;exact Tcl
 have d1:decide (r.Gi<1)=false:=cN c1;by_cases c2:6<r.Gi
 ·replace HE:=aa (HE.o.trans (aw Tde));have d2:decide (6<r.Gi)=true:=eA c2;exact Tcl
 have d2:decide (6<r.Gi)=false:=cN c2;by_cases c3:r.Gh<1
 ·replace HE:=aa (HE.o.trans (aw Tde));have d3:decide (r.Gh<1)=true:=eA c3;exact Tcl
 have d3:decide (r.Gh<1)=false:=cN c3;by_cases c4:6<r.Gh
 ·replace HE:=aa (HE.o.trans (aw Tde));have d4:decide (6<r.Gh)=true:=eA c4;exact Tcl
 have d4:decide (6<r.Gh)=false:=cN c4;have hm0:0<=r.Gi*r.Gh:=oA TcC TcC;have hm1:r.Gi*r.Gh<=6*6:=tW TcC TcC TcC TcC;have hwp:IntKind.i64.wrap (r.Gi*r.Gh)=r.Gi*r.Gh:=dy _ TcC;by_cases c5:6<r.Gi*r.Gh
 ·replace HE:=aa (HE.o.trans (aw Tde));have d5:decide (6<r.Gi*r.Gh)=true:=eA c5;exact Tcl
 have d5:decide (6<r.Gi*r.Gh)=false:=cN c5;by_cases c6:r.Gc<1
 ·replace HE:=aa (HE.o.trans (aw Tde));have d6:decide (r.Gc<1)=true:=eA c6;exact Tcl
 have d6:decide (r.Gc<1)=false:=cN c6;by_cases c7:4096<r.Gc
 ·replace HE:=aa (HE.o.trans (aw Tde));have d7:decide (4096<r.Gc)=true:=eA c7;exact Tcl
 have d7:decide (4096<r.Gc)=false:=cN c7;replace HE:=aa (HE.o.trans (bh Tde));go_upto_region 6 with (fail);clear d1 d2 d3 d4 d5 d6 d7 c1 c2 c3 c4 c5 c6 c7 hm0 hm1 hwp q0 q1 q2;by_cases p1:r.Gg<1
 ·replace HE:=aa (HE.o.trans (aw (by rw [JG];omega)));have d1:decide (r.Gg<1)=true:=eA p1;exact Tcl
 have d1:decide (r.Gg<1)=false:=cN p1;by_cases p2:5<r.Gg
 ·replace HE:=aa (HE.o.trans (aw (by rw [JG];omega)));have d2:decide (5<r.Gg)=true:=eA p2;exact Tcl
 have d2:decide (5<r.Gg)=false:=cN p2;replace HE:=aa (HE.o.trans (bh (by rw [JG];omega)));go_upto_region 8 with (fail);clear d1 d2 p1 p2;have gL:=mi aB0.o;obtain ⟨g0,g1,g2,g3,g4,g5,g6,g7,g8⟩:=xr gL;clear gL;go_wp2_with fail;clear g0 g1 g2 g3 g4 g5 g6 g7 g8 q3 q4 q5 q6;refine (aj7 g a r.near w2 HG2.o.F9 mb).mono ?_;rintro e w3 ⟨u,kk,rfl,hv,OU,hb3⟩;generalize (aM g.F9 r.near).getD eY=x at *;obtain ⟨tv,sv,rfl,ew,fL⟩:=hv;obtain ⟨tp,tc,rfl,_,_⟩:=ew.cap;obtain ⟨sp,sc,rfl,_,_⟩:=fL.cap;have hA:=ae w3 (.cells (Taf x tp tc sp sc) 68);have G2:=hb3.trans (hA.mono hb3.size);have ap5:=Zbk G2 aw7;have eI:=Zbl cm G2;have HKK:=aa OU;clear ew fL hA G2 hb3 OU aB0 HG2 aw7 cm;go_upto_region 9 with (fail);generalize World.alloc w3 _=W4 at *;have qL:=mi ap5.o;have q3:=qL 3 _ rfl;have q5:=qL 5 _ rfl;clear qL;have ld:Hid (xM g r=_):=aa (xM.eq_1 g r);cases hn:r.near.toList.isEmpty with
 | true =>
  rw [hn,aw rfl] at ld;by_cases k2:r.Gg=2
  ·have e2:(r.Gg == 2)=true:=by rw [k2];rfl
   replace HE:=aa (HE.o.trans (aw (by rw [ld.o,OC,e2];rfl)));go_wp2;go_ret;exact ⟨cz HE.o.symm,eI.o⟩
  have e2:(r.Gg == 2)=false:=beq_eq_false_iff_ne.2 k2;by_cases k3:r.Gg=3
  ·have e3:(r.Gg == 3)=true:=by rw [k3];rfl
   replace HE:=aa (HE.o.trans (aw (by rw [ld.o,OC,e2,e3];rfl)));go_wp2;go_ret;exact ⟨cz HE.o.symm,eI.o⟩
  have e3:(r.Gg == 3)=false:=beq_eq_false_iff_ne.2 k3;replace HE:=aa (HE.o.trans (bh (by rw [ld.o,OC,e2,e3];simp)));clear k2 k3 ld;go_upto_region 11 with (fail);clear q3 q5 e2 e3 hn HKK;have q4:=aG (aq ap5.o) (mi ap5.o 4 _ rfl);have q6:=aG (aq ap5.o) (mi ap5.o 6 _ rfl);have Rt:=aa fun q:fo=>GJ r.tag (ext W4 q) Zu.o.1;have HT2:=aa fun q:fo=>GJ r.sep (ext W4 q) Zu.o.2;have ht1:∃ b,b=mr r.tag:=⟨_,rfl⟩;have ht2:∃ b,b=mr r.sep:=⟨_,rfl⟩;obtain ⟨b1,hb1⟩:=ht1;obtain ⟨b2,hb2⟩:=ht2;rw [<- hb1] at Rt;rw [<- hb2] at HT2;have HOT:Hid ((eu r.tag&&eu r.sep)=((r.tag.toList.isEmpty||b1)&&(r.sep.toList.isEmpty||b2))):=aa (by rw [hb1,hb2];rfl);clear hb1 hb2;cases h4:r.tag.toList.isEmpty <;> cases h6:r.sep.toList.isEmpty <;> cases b1 <;> cases b2
  all_goals
   rw [h4,h6] at HOT;(first | (replace HE:=aa (HE.o.trans (aw (HOT.o.trans rfl)))) | (replace HE:=aa (HE.o.trans (bh (by rw [HOT.o];decide)))))
   clear HOT;(refine wp_region_quiet_lit ?_;(repeat (go_big_quiet_step (((first | (go_at_call 38;exact iH (Rt.o _)) | (go_at_call 38;exact iH (HT2.o _)))))));(with_reducible refine fR ?_);intro wq ia;have kq:=dY ia;clear ia)
   have eK:=Zbl eI kq;clear kq q4 q6;go_wp2;go_ret;exact ⟨cz HE.o.symm,eK.o⟩
 | false =>
  rw [hn,bh TcD] at ld;cases hs:(aM g.F9 r.near).isSome with
  | false =>
   rw [hs] at ld HKK;have hk:decide (kk<0)=true:=HKK.o;replace HE:=aa (HE.o.trans (aw ld.o));go_wp2;go_ret;exact ⟨cz HE.o.symm,eI.o⟩
  | true =>
   rw [hs] at ld HKK;have hk:decide (kk<0)=false:=HKK.o;replace HE:=aa (HE.o.trans (bh (by rw [ld.o];simp)));clear ld;go_upto_region 11 with (fail);clear q3 q5 hn hk HKK hs;have q4:=aG (aq ap5.o) (mi ap5.o 4 _ rfl);have q6:=aG (aq ap5.o) (mi ap5.o 6 _ rfl);have Rt:=aa fun q:fo=>GJ r.tag (ext W4 q) Zu.o.1;have HT2:=aa fun q:fo=>GJ r.sep (ext W4 q) Zu.o.2;have ht1:∃ b,b=mr r.tag:=⟨_,rfl⟩;have ht2:∃ b,b=mr r.sep:=⟨_,rfl⟩;obtain ⟨b1,hb1⟩:=ht1;obtain ⟨b2,hb2⟩:=ht2;rw [<- hb1] at Rt;rw [<- hb2] at HT2;have HOT:Hid ((eu r.tag&&eu r.sep)=((r.tag.toList.isEmpty||b1)&&(r.sep.toList.isEmpty||b2))):=aa (by rw [hb1,hb2];rfl);clear hb1 hb2;cases h4:r.tag.toList.isEmpty <;> cases h6:r.sep.toList.isEmpty <;> cases b1 <;> cases b2
   all_goals
    rw [h4,h6] at HOT;(first | (replace HE:=aa (HE.o.trans (aw (HOT.o.trans rfl)))) | (replace HE:=aa (HE.o.trans (bh (by rw [HOT.o];decide)))))
    clear HOT;(refine wp_region_quiet_lit ?_;(repeat (go_big_quiet_step (((first | (go_at_call 38;exact iH (Rt.o _)) | (go_at_call 38;exact iH (HT2.o _)))))));(with_reducible refine fR ?_);intro wq ia;have kq:=dY ia;clear ia)
    have eK:=Zbl eI kq;clear kq q4 q6;go_wp2;go_ret;exact ⟨cz HE.o.symm,eK.o⟩
def P7:ByteArray:=⟨#[115,105,116,101,61,49]⟩
def iU:af:=⟨⟨#[118,103]⟩,0,0,1,0,[],[⟨⟨#[97]⟩,1,0,4,false,false,[P7]⟩,⟨⟨#[98]⟩,2,0,4,false,false,[]⟩],[],[]⟩
def rC:aY:=⟨1,1,1,4,⟨#[]⟩,⟨#[]⟩,⟨#[115,105,116,101,61]⟩⟩
theorem xO:kP iU rC=0:=by kernel_rfl
theorem Et:jU iU rC 0=P7:=by kernel_rfl
theorem Eb:jU iU rC 1=⟨#[98,32]⟩:=by kernel_rfl
theorem EC:NL iU:=by
 refine ⟨⟨TcF,⟨TcF,fun s hs=>by cases hs⟩,TcF,TcF,TcF,fun d hd=>?_,fun v hv=>Tdk,fun h hh=>(by cases hh)⟩,⟨TcF,fun d hd=>?_,TcF,fun v hv=>Tdk⟩,fun v hv=>Tdk,fun v hv=>Tdk⟩
 ·simp only [iU,dr,cY,dg] at hd;rcases hd with rfl | rfl
  ·exact ⟨TcF,TcF,fun s hs=>by obtain rfl:=List.mem_singleton.1 hs;decide⟩
  exact ⟨TcF,TcF,fun s hs=>by cases hs⟩
 simp only [iU,dr,cY,dg] at hd;rcases hd with rfl | rfl <;> decide
theorem Ec:dK rC:=⟨TcF,TcF,TcF,TcF,TcF,TcF,TcF⟩
theorem Tc4 {p:Prop}(h:p:=by simp <;> omega):p:=h
theorem wR (w:World)(hS:AW w) :
  Calls prog 8 #[] w fun e w'=>e=.returned (.bool true)/\Below w.heap.size w w':=by
 have MD:=aa hS;clear hS;go_enter func8,ntmps8
 go_upto_region 3 with (fail);generalize hW5:World.alloc (World.alloc (World.alloc (World.alloc w _) _) _) _=W5;have b5:Below w.heap.size w W5:=by
  rw [<- hW5];exact ((((bj _ _).alloc (bk _) _).alloc Tc4 _).alloc Tc4 _).alloc Tc4 _
 have h0:W5.heap[w.heap.size]?=some (.cells #[.string P7] 9 (0,0)):=by
  rw [<- hW5,cj _ _ _ Tc4,cj _ _ _ Tc4,cj _ _ _ Tc4];exact b9 w _
 have h1:W5.heap[w.heap.size+1]?=some (.cells #[.string ⟨#[97]⟩,.int .u64 1,.int .i64 0,.int .i64 4,.bool false,.bool false,.slice (some w.heap.size) 1 1,.string ⟨#[98]⟩,.int .u64 2,.int .i64 0,.int .i64 4,.bool false,.bool false,.slice none 0 0] 51 (0,0)):=by
  rw [<- hW5,cj _ _ _ Tc4,cj _ _ _ Tc4];exact lZ TcD
 have h2:W5.heap[w.heap.size+1+1]?=some (.cells #[.string ⟨#[118,103]⟩,.int .u64 0,.int .i64 0,.int .i64 1,.int .i64 0,.slice none 0 0,.slice (some (Tac (w.heap.size+1) 0)) 2 2,.slice none 0 0,.slice none 0 0] 31 (0,0)):=by
  rw [<- hW5,cj _ _ _ Tc4];exact lZ TcD
 have h3:W5.heap[w.heap.size+1+1+1]?=some (.cells #[.int .i64 1,.int .i64 1,.int .i64 1,.int .i64 4,.string ⟨#[]⟩,.string ⟨#[]⟩,.string ⟨#[115,105,116,101,61]⟩] 34 (0,0)):=by
  rw [<- hW5];exact lZ TcD
 clear hW5;have ht:ck aF 1 (fun _=>True) W5 [.slice (some w.heap.size) 1 1] [P7]:=ck.one (u:=[.string P7]) h0 trivial rfl rfl;have hd:ck aO 7 (fun _=>True) W5 [.slice (some (Tac (w.heap.size+1) 0)) 2 2] iU.Gb:=⟨_,2,rfl,TcF,TcF,fun _=>⟨_,0,rfl,aq h1,trivial,fun i x hx=>by
  match i,hx with
  | 0,hx =>
   obtain rfl:=gj hx;refine ⟨[.string ⟨#[97]⟩,.int .u64 1,.int .i64 0,.int .i64 4,.bool false,.bool false,.slice (some w.heap.size) 1 1],rfl,⟨_,rfl,ht⟩,fun j z hz=>?_⟩;simp only [World.cell?,h1]
   match j,hz with
   | 0,hz=>simpa using hz
   | 1,hz=>simpa using hz
   | 2,hz=>simpa using hz
   | 3,hz=>simpa using hz
   | 4,hz=>simpa using hz
   | 5,hz=>simpa using hz
   | 6,hz=>simpa using hz
   | j+7,hz=>simp at hz
  | 1,hx =>
   obtain rfl:=gj hx;refine ⟨[.string ⟨#[98]⟩,.int .u64 2,.int .i64 0,.int .i64 4,.bool false,.bool false,.slice none 0 0],rfl,⟨_,rfl,ck.nil⟩,fun j z hz=>?_⟩;simp only [World.cell?,h1]
   match j,hz with
   | 0,hz=>simpa using hz
   | 1,hz=>simpa using hz
   | 2,hz=>simpa using hz
   | 3,hz=>simpa using hz
   | 4,hz=>simpa using hz
   | 5,hz=>simpa using hz
   | 6,hz=>simpa using hz
   | j+7,hz=>simp at hz
  | i+2,hx=>simp [iU] at hx⟩⟩
 have hgr:dN (fun _=>True) W5 iU ⟨none,0,some ⟨w.heap.size+1,0,none⟩,2,none,0,none,0⟩:=⟨ck.nil,hd,ck.nil,ck.nil⟩
 have gL:∀ (W:World),W.heap[w.heap.size+1+1]?=W5.heap[w.heap.size+1+1]?->∀ (j:Nat) (z:Value),[.string ⟨#[118,103]⟩,.int .u64 0,.int .i64 0,.int .i64 1,.int .i64 0,.slice none 0 0,.slice (some (Tac (w.heap.size+1) 0)) 2 2,.slice none 0 0,.slice none 0 0][j]?=some z->W.cell? ⟨w.heap.size+1+1,j,none⟩=some z:=fun W e j z hz=>by
  simp only [World.cell?,e,h2];simpa using hz
 have rL:∀ (W:World),W.heap[w.heap.size+1+1+1]?=W5.heap[w.heap.size+1+1+1]?->∀ (j:Nat) (z:Value),[.int .i64 1,.int .i64 1,.int .i64 1,.int .i64 4,.string ⟨#[]⟩,.string ⟨#[]⟩,.string ⟨#[115,105,116,101,61]⟩][j]?=some z->W.cell? ⟨w.heap.size+1+1+1,j,none⟩=some z:=fun W e j z hz=>by
  simp only [World.cell?,e,h3];simpa using hz
 have hz2:=aq h2;have hz3:=aq h3;have Lm:=aa hgr;have eK:=aa b5;have Qz:=aa gL;have Zq:=aa rL;clear hgr hd ht h0 h1 h2 h3 b5;have gA:=gL W5 rfl;obtain ⟨g0,g1,g2,g3,g4,g5,g6,g7,g8⟩:=xr gA;have rA:=rL W5 rfl;obtain ⟨r0,r1,r2,r3,r4,r5,r6⟩:=se rA;clear gL rL gA rA;have HP:=aa (jk iU ⟨none,0,some ⟨w.heap.size+1,0,none⟩,2,none,0,none,0⟩ rC W5 Lm.o EC Ec (MD.o.below eK.o));go_wp2_with fail;clear g0 g1 g2 g3 g4 g5 g6 g7 g8 r0 r1 r2 r3 r4 r5 r6;refine HP.o.mono ?_;clear HP;intro e w6 hp;obtain ⟨xv,xs,rfl,OA,-,vh,hb6⟩:=hp.form;rw [xO,aw rfl] at vh;rw [xO];obtain ⟨px,cx,rfl,_,_⟩:=OA.cap;have Tn:xs.length=2:=vh;rw [Tn];clear OA vh Tn hp;have Tq:=Zbl eK hb6;have Tp:=aa (Lm.o.mv (ok':=fun _=>True) ⟨hb6.size,fun b hb _=>⟨trivial,hb6.block b hb⟩⟩);have gA:=Qz.o w6 (hb6.block _ hz2);obtain ⟨g0,g1,g2,g3,g4,g5,g6,g7,g8⟩:=xr gA;have rA:=Zq.o w6 (hb6.block _ hz3);obtain ⟨r0,r1,r2,r3,r4,r5,r6⟩:=se rA;have XO:=aa (hb6.block _ hz2);have XP:=aa (hb6.block _ hz3);have hsz6:=hb6.size;clear gA rA hb6;have nt:∀ d∈iU.Gb,d.tags.length<=1000000/\d.name.size<=1000000:=fun d hd=>by
  simp only [iU,dr,cY,dg] at hd;rcases hd with rfl | rfl <;> decide
 have Oj:=aa nt;clear nt;have HC0:=aa (ug iU ⟨none,0,some ⟨w.heap.size+1,0,none⟩,2,none,0,none,0⟩ rC 0 w6 Tp.o.Gb TcF Oj.o TcF);go_wp2_with fail;clear g0 g1 g2 g3 g4 g5 g6 g7 g8 r0 r1 r2 r3 r4 r5 r6;refine HC0.o.mono ?_;clear HC0;rintro e w7 ⟨rfl,hb7⟩;rw [Et];have wk:=Zbl Tq hb7;have XQ:=aa (Tp.o.mv (ok':=fun _=>True) ⟨hb7.size,fun b hb _=>⟨trivial,hb7.block b hb⟩⟩);have gA:=Qz.o w7 ((hb7.block _ TcC).trans XO.o);obtain ⟨g0,g1,g2,g3,g4,g5,g6,g7,g8⟩:=xr gA;have rA:=Zq.o w7 ((hb7.block _ TcC).trans XP.o);obtain ⟨r0,r1,r2,r3,r4,r5,r6⟩:=se rA;clear gA rA hb7;have HC1:=aa (ug iU ⟨none,0,some ⟨w.heap.size+1,0,none⟩,2,none,0,none,0⟩ rC 1 w7 XQ.o.Gb TcF Oj.o TcF);have hs1:(P7.toList == [115,105,116,101,61,49])=true:=by simp [P7]
 go_wp2_with fail;clear g0 g1 g2 g3 g4 g5 g6 g7 g8 r0 r1 r2 r3 r4 r5 r6;refine HC1.o.mono ?_;clear HC1;rintro e w8 ⟨rfl,hb8⟩;rw [Eb];have Ix:=Zbl wk hb8;clear hb8;go_wp2;go_ret;exact ⟨rfl,Ix.o⟩
theorem iw.abv {w0:World}{Bg Bq B:Nat}{a:bN}(h:iw w0 Bg Bq g a r w)(hb:Below B w w')(h1:Bg<B)(h2:Bq<B)(h3:w0.heap.size<B):iw w0 Bg Bq g a r w' :=
 ⟨h.src.keep fun i hi=>hb.block i TcC,h.bl.trans (hb.mono TcC),h.gr.mv ⟨hb.size,fun b _ ho=>⟨ho,hb.block b TcC⟩⟩,(hb.block _ h1).trans h.gb,(hb.block _ h2).trans h.qb,h.rq,
  ⟨cC h.sf.1 hb.size,fun i l hl=>(hb.cell (p:=⟨0,i,none⟩) (show 0<B by omega)).trans (h.sf.2 i l hl)⟩⟩
def IP (g:af)(r:aY)(w:World)(vs:List Value):Prop:=∀ (j:Nat) (v:Value),vs[j]?=some v->∃ xs,fH w 0 v xs/\xs.length=g.Gb.length/\tK g (r.pol ((j:Int)+2)) xs
theorem IP.kinds (h:IP g r w vs)(hk:∀ (b:Nat) (cs:Array Value) (t:TypeId),w.heap[b]?=some (.cells cs t (0,0))->t=43\/t=55->w'.heap[b]?=w.heap[b]?):IP g r w' vs:=fun j v hv=>by
 obtain ⟨xs,h1,h2,h3⟩:=h j v hv;exact ⟨xs,h1.kinds hk,h2,h3⟩
theorem IP.below (h:IP g r w vs)(hb:Below w.heap.size w w'):IP g r w' vs:=h.kinds fun b _ _ e _=>hb.block b (aq e)
theorem IP.snoc {v:Value}{xs:List (List (Int × Int))}(h:IP g r w vs)(h1:fH w 0 v xs)(h2:xs.length=g.Gb.length)(h3:tK g (r.pol ((vs.length:Int)+2)) xs):IP g r w (vs++[v]):=fun j u hu=>by
 by_cases hj:j<vs.length
 ·rw [Fo hj] at hu;exact h j u hu
 have hl:=(List.getElem?_eq_some_iff.1 hu).1;rw [cD,A4] at hl;obtain rfl:j=vs.length:=by omega
 rw [Cp (bk _)] at hu;obtain rfl:v=u:=by simpa using hu
 exact ⟨xs,h1,h2,h3⟩
theorem Hw (l:List Int)(v:Value)(w:World)(hr:Hs w v l)(hl:∀ x∈l,-9223372036854775808<=x/\x<=9223372036854775807)(hS:AW w) :
  Calls prog 3 #[v] w fun e w'=>e=.returned (.bool true)/\Below w.heap.size w w':=by
 have HR:=aa hr;clear hr;have MD:=aa hS;clear hS;go_enter func3,ntmps3
 go_wp2_with fail;refine (ED l v w HR.o hl).mono ?_;rintro e w1 ⟨rfl,hs1,hz1,hb1⟩;go_wp2_with fail;refine (Ca w.heap.size w1 hs1).mono ?_;intro e w2 hG;obtain ⟨g,a,rfl,hgr,MC,hs2,hb2,hz2⟩:=hG.open2 hb1 hz1;have Tt:=aa (MD.o.below hb2);clear hs1 hz1 hb1 hG;have XT:=aa MC.gin;have I3:=aa MC.ckIn;have HMC:Hid ((mchk g).2=0):=aa MC.mchk;have Nj:Hid (g.Gb.length<=4/\g.F9.length<=44):=aa ⟨MC.tame.dl,MC.tame.vl⟩;clear MC;have bA:=ae w2 (.cells (Tad g a) 31);have Mj:=aa (b9 w2 (.cells (Tad g a) 31));have Lm:=aa (hgr.lt.keep (cR.bl bA));have Zv:=aa (hs2.keep (w':=w2.alloc (.cells (Tad g a) 31)) fun i hi=>bA.block i TcC);have cJ:=aa (hb2.trans (bA.mono hb2.size));have Tu:=aa (Tt.o.below bA);clear hgr hs2 hb2 bA Tt;go_upto_region 3 with (fail);generalize hW3:World.alloc w2 _=W3 at *;generalize Ms:w2.heap.size=Bg at *;clear hW3 Ms;have gL:=cr Mj.o;obtain ⟨g0,g1,g2,g3,g4,g5,g6,g7,g8⟩:=xr gL;clear gL;have CD:=Nj.o.1;have mb:=Nj.o.2;have SA:=aa (wX g a w.heap.size W3 ((ck.moves aN.moves).mv ⟨bk _,fun b _ hb=>⟨hb.1,rfl⟩⟩ Lm.o.F9) TcC (fun v hv=>(XT.o.tx.vol v hv).1) Zv.o);go_wp2_with fail;clear g0 g1 g2 g3 g4 g5 g6 g7 g8;refine SA.o.mono ?_;rintro e w4 ⟨r,rfl,hrq,hs4,hm4⟩;clear SA;have h0w:=MD.o.1;have hA:=ae w4 (.cells (Tal r) 34);have hN:=b9 w4 (.cells (Tal r) 34);have ye:Bg≠w.heap.size:=by omega
 have HST:Hid (iw w Bg w4.heap.size g a r (w4.alloc (.cells (Tal r) 34))):=aa
  ⟨hs4.keep fun i hi=>hA.block i (rr hi hs4.lt),(cJ.o.trans (hm4.below cJ.o.size (fun k e=>by omega))).trans (hA.mono (cA cJ.o.size hm4.size)),(Lm.o.keep hm4).keep (cR.bl hA),
   (hA.block _ (cC (aq Mj.o) hm4.size)).trans ((hm4.block _ (aq Mj.o) ye).trans Mj.o),hN,hrq,(Tu.o.mod hm4 TcC).below hA⟩
 have hsz4:=hm4.size;have kq:Bg<w4.heap.size:=cC (aq Mj.o) hm4.size;clear hA hN hrq hs4 hm4 Mj Lm Zv cJ Tu;unfold mO;go_upto_region 4 with (fail);generalize hW5:World.alloc w4 _=W5 at *;generalize PF:w4.heap.size=Bq at *;clear hW5 PF;have hqb:w.heap.size<Bq:=by
  have:=HST.o.src.lt;have:=hsz4;omega
 have q5:=HST.o.qc 5 _ rfl;cases hne:r.near.toList.isEmpty with
 | true =>
  go_upto_region 5 with (fail);clear q5;go_wp2_with fail;refine (wR W5 HST.o.sf).mono ?_;rintro e w6 ⟨rfl,hb6⟩;have TF:=aa (HST.o.bl.trans (hb6.mono HST.o.bl.size));clear hb6;go_wp2;go_ret;exact ⟨rfl,TF.o⟩
 | false =>
  go_upto_region 7 with (fail);clear q5;have hA:=ae W5 (.cells #[.int .i64 2,.int .i64 3,.int .i64 4] 3);have Qc:=aa (b9 W5 (.cells #[.int .i64 2,.int .i64 3,.int .i64 4] 3));have HS6:=aa (HST.o.below hA);have hqs:=aq HST.o.qb;have TL:=HST.o.bl.size;clear hA HST;go_upto_region 8 with (fail);generalize World.alloc W5 _=W6 at *;generalize W5.heap.size=Bl at *;go_loopw [6,25] (fun v i wr=>∃ k:Nat,k<=3/\i=.int .i64 k/\∃ (vs:List Value) (p:Int),vs.length=k/\bF IJ 1 38 Bl (fun _=>False) wr v vs/\iw w Bg Bq g a (r.pol p) wr/\wr.heap[Bl]?=some (.cells #[.int .i64 2,.int .i64 3,.int .i64 4] 3 (0,0))/\IP g r wr vs) (fun _ i _=>3 - (intOf i).toNat)
  exact ⟨0,TcC,rfl,[],r.Gg,rfl,⟨[],gS _ _ _ 1,rfl⟩,HS6.o,Qc.o,fun j v hv=>by cases hv⟩;clear HS6 Qc;obtain ⟨k,hk,rfl,vs,p,hvk,ho,hst,Li,hwp⟩:=hrel;have HO:=aa ho;clear ho;have HST:=aa hst;clear hst;have Qc:=aa Li;clear Li;have HWP:=aa hwp;clear hwp;have Sq:=aa hvk;clear hvk;by_cases hlt:k<3
  ·have l0:wr.cell? (Bl,k)=some (.int .i64 ((k:Int)+2)):=by
    refine mi (l:=[.int .i64 2,.int .i64 3,.int .i64 4]) Qc.o k _ ?_;rcases (show k=0\/k=1\/k=2 by omega) with rfl | rfl | rfl <;> rfl
   have q3:wr.cell? (Tac Bq 3)=some (.int .i64 p):=HST.o.qc 3 _ rfl;have qf:=HST.o.qf;go_upto_region 10 with (fail);have HS9:=aa (HST.o.set (r.pol ((k:Int)+2)) 3 (.int .i64 ((k:Int)+2)) rfl (HST.o.rq.setPw ((k:Int)+2) TcC) kq hqb);have hne9:∀ b,b≠Bq->(wr.setCell (Tac Bq 3) (.int .i64 ((k:Int)+2))).heap[b]?=wr.heap[b]?:=fun b hb=>bw _ _ _ _ (by show b≠Bq;omega)
   have aB1:=aa (HWP.o.kinds (w':=wr.setCell (Tac Bq 3) (.int .i64 ((k:Int)+2))) fun b cs t e ht=>hne9 b fun q=>by
    subst q;rw [HST.o.qb] at e;injection e with e;injection e with _ e2;rw [<- e2] at ht;rcases ht with ht | ht <;> cases ht)
   have ay0:=aa ((hne9 Bl TcC).trans Qc.o);have HO9:Hid (bF IJ 1 38 Bl (fun _=>False) (wr.setCell (Tac Bq 3) (.int .i64 ((k:Int)+2))) _ vs):=aa (bF.Gl IJ.moves HO.o TcR fun b hb=>hne9 b (by have:=(bF.ge HO.o hb).1;omega));clear hne9 HWP Qc HO;go_upto_region 11 with (fail);clear l0 q3 qf HST;generalize World.setCell wr _ _=W9 at *;have gL:=HS9.o.gc;obtain ⟨g0,g1,g2,g3,g4,g5,g6,g7,g8⟩:=xr gL;have qL:=HS9.o.qc;obtain ⟨q0,q1,q2,q3,q4,q5,q6⟩:=se qL;clear gL qL;have HP:=aa (jk g a (r.pol ((k:Int)+2)) W9 HS9.o.gr XT.o HS9.o.rq HS9.o.sf);go_wp2_with fail;clear g0 g1 g2 g3 g4 g5 g6 g7 g8 q0 q1 q2 q3 q4 q5 q6;refine HP.o.mono ?_;clear HP;intro e w10 hp10;obtain ⟨xv,xs,rfl,OA,Zs,vh,hb10⟩:=hp10.form;clear hp10;have LU:Hid (kP g (r.pol ((k:Int)+2))=yZ g (r.pol ((k:Int)+2))):=aa (by unfold kP;rw [aw HMC.o]);have PW:=aa (OA.mono (cg _));have HXP:=aa Zs;have NA:=aa vh;have HS10:=aa (HS9.o.below hb10);have aw1:=aa (aB1.o.below hb10);have as1:=Zbk hb10 ay0;have HO10:=aa (bF.Gl IJ.moves HO9.o hb10.size fun b hb=>hb10.block b (bF.ge HO9.o hb).2);clear OA Zs vh hb10 HS9 aB1 ay0 HO9;have gL:=HS10.o.gc;obtain ⟨g0,g1,g2,g3,g4,g5,g6,g7,g8⟩:=xr gL;have qL:=HS10.o.qc;obtain ⟨q0,q1,q2,q3,q4,q5,q6⟩:=se qL;clear gL qL;have HC:=aa (Jt g a (r.pol ((k:Int)+2)) w10 HS10.o.gr I3.o HS10.o.rq);go_wp2_with fail;clear g0 g1 g2 g3 g4 g5 g6 g7 g8 q0 q1 q2 q3 q4 q5 q6;refine HC.o.mono ?_;clear HC;rintro e w11 ⟨rfl,hb11⟩;rw [<- LU.o];have as2:=aa (PW.o.below hb11);have HS11:=aa (HS10.o.below hb11);have aw2:=aa (aw1.o.below hb11);have ap8:=Zbk hb11 as1;have HO11:=aa (bF.Gl IJ.moves HO10.o hb11.size fun b hb=>hb11.block b (bF.ge HO10.o hb).2);clear hb11 PW HS10 aw1 as1 HO10 LU;generalize Mu:kP g (r.pol ((k:Int)+2))=E at *;have LU:=aa Mu;clear Mu;have enn:(E != E)=false:=by simp
   by_cases he:E=0
   ·have e0:(E != 0)=false:=by rw [he];rfl
    rw [aw he] at NA;clear he;have mA:=aq ap8.o;go_upto_region 16 with (fail);clear enn e0;obtain ⟨i0,hi,hz0,hz1,hz2⟩:=cy KV;have HI:=aa hi;have H0:=aa hz0;have H1:=aa hz1;have H2:=aa hz2;obtain ⟨px,cx,rfl,_,_⟩:=as2.o.cap;have G2:=ae w11 (.cells #[.slice px xs.length cx] 38);have HOA:=aa (bF.Gl IJ.moves HO11.o G2.size fun b hb=>G2.block b (bF.ge HO11.o hb).2);have pL:=aa G2;have aC9:vs.length<=1000000:=by have:=Sq.o;omega
    clear hi hz0 hz1 hz2 G2;go_wp2_with (at_builtin;refine dX IJ.moves underlying37 HI.o H0.o H1.o H2.o rfl TcF TcF rfl _ _ rfl Bl (fun _=>False) _ vs (.slice px xs.length cx) rfl HOA.o w11.heap.size 1 [.slice px xs.length cx] rfl ?d1 ?d2 ?d3 ?d4 ?d5 ?d6 ?d7 ?_)
    case d1=>rfl
    case d2=>rfl
    case d3=>intro z hz;obtain rfl:=List.mem_singleton.1 hz;rfl
    case d4=>intro j y hy;exact aD rfl TcX
    case d5=>exact aC9
    case d6=>rw [cW];omega
    case d7=>intro b _ h;exact h
    intro gb cap w12 hp;have jn:Below Bl w11 w12:=(pL.o.mono TcC).grown hp.grown (by rw [cW];omega) (fun j e=>(bF.ge HOA.o e).1);have CT:∀ (b:Nat) (cs:Array Value) (t:TypeId),w11.heap[b]?=some (.cells cs t (0,0))->t≠38->w12.heap[b]?=w11.heap[b]?:=fun b cs t e ht=>by
     have hl:=aq e;refine (hp.grown.block b (by rw [cW];omega) fun q=>?_).trans (pL.o.block b hl);obtain ⟨cs',e'⟩:=bF.ty HOA.o q.symm;rw [pL.o.block b hl,e] at e';injection e' with e';injection e' with _ e2;exact ht e2
    have HS12:=aa (HS11.o.abv jn TcC TcC TcC);have ay6:=aa ((CT Bl _ _ ap8.o TcF).trans ap8.o);have ay7:=aa ((aw2.o.kinds fun b cs t e ht=>CT b cs t e (by rcases ht with rfl | rfl <;> decide)).snoc (as2.o.kinds fun b cs t e ht=>CT b cs t e (by rcases ht with rfl | rfl <;> decide)) NA.o (by rw [Sq.o];exact HXP.o));have HO12:=aa hp.own;have aD0:Hid ((vs++[Value.slice px xs.length cx]).length=k+1):=aa (by rw [cD,A4,Sq.o]);clear hp jn CT HS11 ap8 aw2 as2 HO11 HOA pL NA HXP;go_wp2;go_roundw;exact ⟨k+1,TcC,TcG,_,_,aD0.o,HO12.o,HS12.o,ay6.o,ay7.o⟩;simp [intOf];omega
   have e0:(E != 0)=true:=bne_iff_ne.2 he;go_upto_region 15 with (fail);go_wp2_with fail;refine (wR w11 HS11.o.sf).mono ?_;rintro e w12 ⟨rfl,hb12⟩;have TF:=aa (HS11.o.bl.trans (hb12.mono HS11.o.bl.size));clear hb12 enn e0;go_wp2;go_ret;exact ⟨rfl,TF.o⟩
  obtain ⟨v0,hv0⟩:=aj vs 0 (by have:=Sq.o;omega);obtain ⟨v1,hv1⟩:=aj vs 1 (by have:=Sq.o;omega);obtain ⟨v2,hv2⟩:=aj vs 2 (by have:=Sq.o;omega);obtain ⟨xs0,o0,n0,P0⟩:=HWP.o 0 v0 hv0;obtain ⟨xs1,o1,n1,P1⟩:=HWP.o 1 v1 hv1;obtain ⟨xs2,o2,n2,P2⟩:=HWP.o 2 v2 hv2;have HP0:Hid (tK g (r.pol 2) xs0):=aa P0;have NY:Hid (tK g (r.pol 3) xs1):=aa P1;have MU:Hid (tK g (r.pol 4) xs2):=aa P2;have B2:Hid (ck IJ 1 (fun _=>True) wr [_] vs):=aa (bF.rd IJ.moves HO.o TcF (fun _ _ h=>h.elim) (fun _ _=>trivial));have hk3:vs.length=3:=by have:=Sq.o;omega
  obtain ⟨cs,⟨hc1,hc2⟩,hcf⟩:=HO.o;rcases hc2 with ⟨rfl,hn⟩ | ⟨bl,cl,cur,rfl,hbl,K2,vr,hcm,hcs,Nh⟩
  ·exfalso;omega
  rw [hk3];obtain ⟨ba,oa,ua,hsp,_,cX,_,eE,hcv⟩:=B2.o.elem hv0;simp only [Option.some.injEq,Addr.mk.injEq,and_true] at hsp;obtain ⟨rfl,rfl⟩:=hsp;obtain rfl:ua=_:=eE;have l0:wr.cell? bl=some v0:=hcv 0 _ rfl;clear hcv;obtain ⟨ba,oa,ua,hsp,_,_,_,eE,hcv⟩:=B2.o.elem hv1;simp only [Option.some.injEq,Addr.mk.injEq,and_true] at hsp;obtain ⟨rfl,rfl⟩:=hsp;obtain rfl:ua=_:=eE;have l1:wr.cell? (Tac bl 1)=some v1:=hcv 0 _ rfl;clear hcv;obtain ⟨ba,oa,ua,hsp,_,_,_,eE,hcv⟩:=B2.o.elem hv2;simp only [Option.some.injEq,Addr.mk.injEq,and_true] at hsp;obtain ⟨rfl,rfl⟩:=hsp;obtain rfl:ua=_:=eE;have l2:wr.cell? (Tac bl 2)=some v2:=hcv 0 _ rfl;clear hcv;obtain ⟨p0,c0,rfl,_,_⟩:=o0.cap;obtain ⟨p1,c1,rfl,_,_⟩:=o1.cap;obtain ⟨p2,c2,rfl,_,_⟩:=o2.cap;have HO0:=aa o0;have HO1:=aa o1;have HO2:=aa o2;have HN0:=aa n0;have Oa:=aa n1;have Nk:=aa n2;have QX:=aa l0;have HL1:=aa l1;have TQ:=aa l2;clear o0 o1 o2 n0 n1 n2 l0 l1 l2 hv0 hv1 hv2 P0 P1 P2 hc1 hcf hbl K2 vr hcm hcs Nh HWP HO B2 Qc;have g6:=HST.o.gc 6 _ rfl;go_wp2;clear g6 hlt hk hk3;go_loopw [11] (fun i wq=>∃ k:Nat,k<=g.Gb.length/\i=.int .i64 k/\Below wr.heap.size wr wq) (fun i _=>g.Gb.length - (intOf i).toNat)
  exact ⟨0,cg _,rfl,bj _ _⟩;obtain ⟨k,hk,rfl,hB⟩:=hrel;have HB:=aa hB;clear hB;have HS3:=aa (HST.o.below HB.o);have g6:=HS3.o.gc 6 _ rfl;by_cases hlt:k<g.Gb.length
  ·obtain ⟨d,hd⟩:=aj g.Gb k hlt;obtain ⟨x,hx⟩:=aj xs0 k (by have:=HN0.o;omega);obtain ⟨y,hy⟩:=aj xs1 k (by have:=Oa.o;omega);obtain ⟨z,hz⟩:=aj xs2 k (by have:=Nk.o;omega);have OB:=aa (HP0.o k d x hd hx);have UN:=aa (NY.o k d y hd hy);have HZZ:=aa (MU.o k d z hd hz);obtain ⟨b0,u0,hp0,_,hb0,hu0,ho0⟩:=HO0.o.at hx;obtain ⟨b1,u1,hp1,_,hb1,hu1,ho1⟩:=HO1.o.at hy;obtain ⟨b2,u2,hp2,_,hb2,hu2,ho2⟩:=HO2.o.at hz;have l0:=(HB.o.cell (p:=bl) cX).trans QX.o;have l1:=(HB.o.cell (p:=⟨bl,1,none⟩) cX).trans HL1.o;have l2:=(HB.o.cell (p:=⟨bl,2,none⟩) cX).trans TQ.o;rw [hp0,HN0.o] at l0;rw [hp1,Oa.o] at l1;rw [hp2,Nk.o] at l2;have e0:=(HB.o.cell (p:=⟨b0,k,none⟩) hb0).trans hu0;have e1:=(HB.o.cell (p:=⟨b1,k,none⟩) hb1).trans hu1;have e2:=(HB.o.cell (p:=⟨b2,k,none⟩) hb2).trans hu2;have HR0:=aa (ho0.below HB.o).rd;have HR1:=aa (ho1.below HB.o).rd;have E3:=aa (ho2.below HB.o).rd;have hsz:=HB.o.size;clear hd hx hy hz hu0 hu1 hu2 ho0 ho1 ho2 hp0 hp1 hp2;go_upto_region 21 with (fail);refine Jw _ _ _ _ _ _ _ _ _ _ _ _ _ _ _ _ _ _ _ _ _ _ _ _ _ _ _ _ _ _ _ _ _ _ _ _ _ _ _ _ _ _ _ _ _ _ _ _ _ _ _ _ _ _ _ _ _ _ _ _ _ _ _ _ _ _ _ _ _ _ _ _ _ _ _ _ _ _ _ _ _ _ _ _ _ _ _ _ _ _ _ _ _ _ _ _ _ _ _ _ _ _ _ _ _ _ _ _ _ _ _ _ _ _ _ _ _ _ wr Bg bl b0 b1 b2 k g.Gb.length cl c0 c1 c2 a.dc a.dp u0 u1 u2 hlt (aq HS3.o.gb) (cC cX hsz) (cC hb0 hsz) (cC hb1 hsz) (cC hb2 hsz) ⟨g6,l0,l1,l2,e0,e1,e2⟩ (fun w' hb=>?_) (fun w' hb=>?_) (aa ?_) (fun _ _ _ _ _ h=>h)
   ·refine (Gn x y 1 (.inr (.inl rfl)) u0 u1 w' (HR0.o.below hb) (HR1.o.below hb) OB.o.2.2 UN.o.2.2 (by have:=OB.o.2.1;omega) (by have:=UN.o.2.1;omega)).mono ?_;rintro e w'' ⟨v,s,rfl,ho,hs,_,_,hb2⟩;obtain rfl:=Ha OB.o.1 UN.o.1 hs fun n=>JS;obtain ⟨p,c,rfl,_⟩:=ho.rd;exact ⟨p,c,rfl,hb.trans (hb2.mono hb.size)⟩
   ·refine (Gn y z 1 (.inr (.inl rfl)) u1 u2 w' (HR1.o.below hb) (E3.o.below hb) UN.o.2.2 HZZ.o.2.2 (by have:=UN.o.2.1;omega) (by have:=HZZ.o.2.1;omega)).mono ?_;rintro e w'' ⟨v,s,rfl,ho,hs,_,_,hb2⟩;obtain rfl:=Ha UN.o.1 HZZ.o.1 hs fun n=>Jc;obtain ⟨p,c,rfl,_⟩:=ho.rd;exact ⟨p,c,rfl,hb.trans (hb2.mono hb.size)⟩
   intro w13 u57 u58 u59 u60 u61 u62 u63 u64 u65 u66 u67 u68 u69 u70 u71 u72 u73 u74 u75 u76 u77 u78 u79 u80 u81 u82 u83 u84 u85 u86 u87 u88 u89 u90 u91 u92 u93 u94 u95 u96 u97 u98 u99 u100 u101 u102 u103 u104 u105 u106 u107 u108 u109 u110 u111 u112 u113 u114 u115 u116 u117 hb13;have WX:=Zbl HB hb13;clear hb13 g6 l0 l1 l2 e0 e1 e2;go_wp2;go_roundw;exact ⟨k+1,TcC,TcG,WX.o⟩;simp [intOf];omega
  have fy:=aa HS3.o.bl;go_wp2_with fail;clear g6;refine (wR wr HS3.o.sf).mono ?_;rintro e w14 ⟨rfl,hb14⟩;have TF:=Zbl fy hb14;clear hb14;go_wp2;go_ret;exact ⟨rfl,TF.o⟩
open Go.ChangeShapes Go.WideShapes Go.ChangeAt Go.WideMaps Go.WideElems
def nC {H : Type} : List (String × DataW H) := [("volumegroup/names.suffixes", Rows.laid_volumegroup_names_suffixes)]
theorem BU : prog.globalNamed "volumegroup/names.suffixes" = some 0 := by kernel_rfl
theorem BB:(prog.globals[0]?).map (·.type)=some 232:=by kernel_rfl
theorem Cj (os:Os)(args:Array Value):laidMetH prog nC ((World.doorLaid prog 400 os).forCall (fun _ _=>0) ⟨#[],args,[]⟩).memory :=
 laidMetH_of_parts3 (fuel:=8) (laidMet_of_run' 8 TcE TcE) TcE TcE
theorem vW {W:World}(h:laidMetH prog nC W):AW W:=by
 rw [MakeChecks.laidMetH_plain _ _ _ TcE] at h;obtain ⟨ps,⟨g0,t0,cs0,f0,p0,q0,hg0,ht0,hv0,hd0,_,_⟩,_,_⟩:=h;obtain rfl:=gj (BU.symm.trans hg0);obtain rfl:=gj (BB.symm.trans ht0);obtain ⟨xs,m1,rfl,hx1,hlen,hn,Vh⟩:=DataW.trod_array underlying232 hd0;have c1:prog.cellsOf 9=1:=by kernel_rfl
 have c5:prog.cellsOf 232=5:=by kernel_rfl
 simp only [Prod.mk.injEq,DataW.agg.injEq] at hx1;rw [c5] at hlen;have hx2:=hx1.1;unfold Rows.laid_volumegroup_names_suffixes at hx2;injection hx2 with hx2;obtain ⟨l⟩:=cs0;have hl:l.length=5:=by simpa using hlen
 have key:∀ (i:Nat) (s:List UInt8),([] :: nV)[i]?=some s->l[i]?=some (.string ⟨s.toArray⟩):=fun i s hs=>by
  have hi:i<5:=by
   have:=(List.getElem?_eq_some_iff.1 hs).1;simpa [nV] using this
  have he:=Vh i hi;obtain ⟨x,hx⟩:=aj xs i TcC;rw [hx,c1] at he;obtain ⟨t,e1,e2,_⟩:=DataW.trod_string underlying9 he;have QF:(xs.map (·.1))[i]?=some x.1:=by rw [rI,hx];rfl
  rw [<- hx2,e2] at QF;have h1:l[i]?=some (.string t):=by
   have:=fj (fun z:List Value=>z[0]?) e1;simpa [xF,pk] using this
  have h2:t.data.toList=s:=by
   rcases (show i=0\/i=1\/i=2\/i=3\/i=4 by omega) with rfl | rfl | rfl | rfl | rfl <;>
    (have e3:=gj hs;subst e3;simpa [Rows.laid_volumegroup_names_suffixes] using QF.symm)
  rw [h1,bytes_eta t,h2]
 have hlt:0<W.heap.size:=by
  have:=World.var?_cell hg0 hv0 0;have h0:=key 0 [] rfl;have hc:W.cell? (Tac 0 0)=some (.string ⟨#[]⟩):=by simpa [h0] using this
  exact Nat.pos_of_ne_zero fun e=>by simp [World.cell?,xp (by omega:W.heap.size<=0)] at hc
 refine ⟨hlt,fun i s hs=>?_⟩;have:=World.var?_cell hg0 hv0 i;rw [this];simpa using key i s hs
end Go.Proofs.YtaagglbgohjldaaGreatDoor
