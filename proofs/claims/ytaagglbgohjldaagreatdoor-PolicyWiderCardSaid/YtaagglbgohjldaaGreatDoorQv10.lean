/- Lemmas: ModB, RanA. -/
import Derived.Test.YtaagglbgohjldaaGreatDoorQv09
set_option maxRecDepth 100000
set_option maxHeartbeats 32000000
set_option linter.all false
namespace Go.Proofs.YtaagglbgohjldaaGreatDoor
open Go.Proofs.Tryz
open Go.RowKit Go.Maps
variable {ok:Nat->Prop}{w w':World}{g:af}{a:bN}{bc:Nat}{x:eX}{ext start l:Int}{s:aB}
structure dN (ok:Nat->Prop)(w:World)(g:af)(a:bN):Prop where
 tags:ck aF 1 ok w [.slice a.tp g.tags.length a.tc] g.tags
 Gb:ck aO 7 ok w [.slice a.dp g.Gb.length a.dc] g.Gb
 F9:ck aN 6 ok w [.slice a.vp g.F9.length a.vc] g.F9
 hist:ck lF 3 ok w [.slice a.hp g.history.length a.hc] g.history
theorem dN.mv {ok':Nat->Prop}(h:dN ok w g a)(hm:Mv ok ok' w w'):dN ok' w' g a :=
 ⟨(ck.moves aF.moves).mv hm h.tags,(ck.moves aO.moves).mv hm h.Gb,(ck.moves aN.moves).mv hm h.F9,(ck.moves lF.moves).mv hm h.hist⟩
theorem pF:Keyed prog 3:=int_keyed underlying3
def gY (w:World)(bc:Nat)(g:af)(a:bN):Prop :=
 ∃ sm,w.heap[bc]?=some (.cells #[.string g.name,.int .u64 g.id,.int .i64 g.seq,.int .i64 g.Gd,.int .i64 g.next,.slice a.tp g.tags.length a.tc,.slice a.dp g.Gb.length a.dc,.slice a.vp g.F9.length a.vc,.slice a.hp g.history.length a.hc,.map (some sm)] 156 (0,0)) /\
  bi prog 3 w sm 10 eH
theorem gY.below (h:gY w bc g a)(hb:Below w.heap.size w w'):gY w' bc g a:=by
 obtain ⟨sm,h1,h2⟩:=h;exact ⟨sm,(hb.block _ (aq h1)).trans h1,h2.block (hb.block _ h2.lt)⟩
theorem gY.lt (h:gY w bc g a):bc<w.heap.size:=by
 obtain ⟨sm,h1,_⟩:=h;exact aq h1
theorem TeQ {p:Prop}(h:p:=by rw [HM.o,cN (show ¬ 1<=s.chunk by omega)];rfl):p:=h
theorem wW (g:af)(a:bN)(bc:Nat)(s:aB)(x:eX)(u:List Value)(w:World)(kB:gY w bc g a)(hg0:0<=g.Gd)(hg1:g.Gd<=1000000)(hv:bC ok w u s) :
  Calls prog 179 #[.pointer (some bc),.agg u.toArray,.agg (dm x).toArray] w fun e w'=>e=.returned (.bool (fq g.Gd s.chunk x))/\Below w.heap.size w w':=by
 unfold dm;have jt:=kB.lt;obtain ⟨av,Oz,rfl,py,hst⟩:=hv;obtain ⟨ap,ac,rfl,aq0,aq1⟩:=py.cap;obtain ⟨eN,eR,rfl,hsc1,hsc2⟩:=hst.cap;clear py hst;obtain ⟨sm,hblk,_⟩:=kB;have HM:Hid (fq g.Gd s.chunk x=_):=aa (fq.eq_1 g.Gd s.chunk x);have cm:=aa ((ae w (.cells (Tae s ap ac eN eR) 114)).trans ((ae (w.alloc (.cells (Tae s ap ac eN eR) 114)) (.cells (Tak x) 192)).mono (ae w (.cells (Tae s ap ac eN eR) 114)).size));have c3:((w.alloc (.cells (Tae s ap ac eN eR) 114)).alloc (.cells (Tak x) 192)).cell? (Tac bc 3)=some (.int .i64 g.Gd):=(cd (a:=⟨bc,3,none⟩) (cm.o.block bc jt)).trans (by simp [World.cell?,hblk]);have x4:((w.alloc (.cells (Tae s ap ac eN eR) 114)).alloc (.cells (Tak x) 192)).cell? (Tac (w.heap.size+1) 4)=some (.int .i64 x.chunk):=aD TcD rfl;have s4:((w.alloc (.cells (Tae s ap ac eN eR) 114)).alloc (.cells (Tak x) 192)).cell? (Tac w.heap.size 4)=some (.int .i64 s.chunk):=(cd (a:=⟨w.heap.size,4,none⟩) (cj _ _ _ TcD)).trans (aD rfl rfl);clear hblk;by_cases h0:x.chunk=0
 ·have q:(x.chunk == 0)=true:=by simpa using h0
  rw [aw h0] at HM;clear h0;go_enter func179,ntmps179;go_wp2;go_ret;exact ⟨ah HM.o.symm,cm.o⟩
 have q:(x.chunk == 0)=false:=by simpa using h0
 rw [bh h0] at HM;by_cases h1:x.chunk=1
 ·rw [aw h1] at HM;have q1:(x.chunk == 1)=true:=by simpa using h1
  clear h0 h1;by_cases hc:1<=s.chunk
  ·have e1:g.Gd.tmod s.chunk=g.Gd % s.chunk:=Int.tmod_eq_emod_of_nonneg hg0;have e0:0<=g.Gd % s.chunk:=Int.emod_nonneg _ TcC;have e2:g.Gd % s.chunk<=g.Gd:=by
    rw [Int.emod_def];have:=oA (show 0<=s.chunk by omega) (lz hg0 (show 0<=s.chunk by omega));omega
   have e3:IntKind.i64.wrap (g.Gd % s.chunk)=g.Gd % s.chunk:=dy _ TcC;have e4:(s.chunk == 0)=false:=by simp;omega
   have HD:Hid (decide (1<=s.chunk)=true):=aa (by simpa using hc);go_enter func179,ntmps179;go_wp2;go_quiet (fail);go_wp2;go_ret;exact ⟨ah (by rw [HM.o,HD.o];rfl),aT cm.o _⟩
  have hd:decide (1<=s.chunk)=false:=by simpa using hc
  go_enter func179,ntmps179;go_wp2;go_quiet (fail);go_wp2;go_ret;exact ⟨ah TeQ,aT cm.o _⟩
 have q1:(x.chunk == 1)=false:=by simpa using h1
 rw [bh h1] at HM;clear h0 h1;by_cases hc:1<=s.chunk
 ·by_cases hd:s.chunk<=x.chunk
  ·go_enter func179,ntmps179
   go_wp2;go_ret;exact ⟨ah (by rw [HM.o,eA (show 1<=s.chunk by omega),eA (show s.chunk<=x.chunk by omega)];rfl),cm.o⟩
  go_enter func179,ntmps179
  go_wp2;go_ret;exact ⟨ah (by rw [HM.o,cN (show ¬ s.chunk<=x.chunk by omega)];simp),cm.o⟩
 go_enter func179,ntmps179
 go_wp2;go_ret;exact ⟨ah TeQ,cm.o⟩
theorem uG (w:World):(zeroValue 192).run prog w=.ok (jR yu) w:=by kernel_rfl
def oO (k:Int):eX:=(shapeOf k).getD yu
theorem uA (k:Int):(eH (.int .i64 k)).getD (jR yu)=jR (oO k):=by
 rw [show eH (.int .i64 k)=(shapeOf k).map jR from rfl];unfold oO;cases shapeOf k <;> rfl
theorem ni (g:af)(a:bN)(bc:Nat)(s:aB)(x:eX)(u cx:List Value)(w:World)(kB:gY w bc g a)(hg0:0<=g.Gd)(hg1:g.Gd<=1000000)(hv:bC ok w u s)(hc:cx=dm x) :
  Calls prog 179 #[.pointer (some bc),.agg u.toArray,.agg cx.toArray] w fun e w'=>e=.returned (.bool (fq g.Gd s.chunk x))/\Below w.heap.size w w':=by
 subst hc;exact wW g a bc s x u w kB hg0 hg1 hv
theorem jb (s:aB)(x:eX)(u cx:List Value)(w:World)(hv:bC ok w u s)(ha:s.Ga.length<=1000000)(hl:s.stale.length<=1000000)(hc:cx=dm x) :
  Calls prog 180 #[.agg u.toArray,.agg cx.toArray] w fun e w'=>e=.returned (.bool (dP s x))/\Below w.heap.size w w':=by
 subst hc;exact xY s x u w hv ha hl
theorem lu (h:shapeOf 2=some x):x.least=2:=by cases h;rfl
theorem kC (h:shapeOf 4=some x):x.least=3:=by cases h;rfl
theorem Mv.of (hb:Below w.heap.size w w'):Mv ok ok w w':=⟨hb.size,fun b hb' ho=>⟨ho,hb.block b hb'⟩⟩
theorem jT (h:shapeOf s.kind=none):bJ ext s start=false:=by unfold bJ;rw [h]
theorem jP (h:shapeOf s.kind=some x):bJ ext s start=(s.start == start&&decide (1<=s.length)&&decide (s.length<=32768)&&decide (x.least<=s.Ga.length)&&decide (s.Ga.length<=x.greatest)&&s.Ga.all (bT x) &&
   fq ext s.chunk x&&(x.log||s.log.toList.isEmpty)&&(x.pool||s.pool.toList.isEmpty)&&dP s x&&bE s.device 1 65535 x.pool&&bE s.mode 1 2 x.mode&&bE s.done 0 s.length x.done &&
   !(s.kind == 2&&!(s.length % s.Ga.length == 0))&&!(s.kind == 4&&!(s.length % (s.Ga.length - 1) == 0))):=by unfold bJ;rw [h]
def Tau (x0:aR):Tab #[.bool x0.vol,.string x0.on,.int .i64 x0.start]:=⟨⟩
theorem Tdo {p:Prop}(h:p:=by have:=(List.getElem?_eq_some_iff.1 hj).1;omega):p:=h
theorem Tet {p:Prop}(h:p:=by rw [HO.o,OW.o,HV.o];simp):p:=h
theorem ze (g:af)(a:bN)(bc:Nat)(s:aB)(start:Int)(u:List Value)(w:World)(kB:gY w bc g a)(hg0:0<=g.Gd)(hg1:g.Gd<=1000000)(hv:bC ok w u s)(ha:s.Ga.length<=1000000)(hl:s.stale.length<=1000000)(TY:(Lit.int .i64 s.kind).wf=true) :
  Calls prog 143 #[.pointer (some bc),.agg u.toArray,.int .i64 start] w fun e w'=>e=.returned (.bool (bJ g.Gd s start))/\Below w.heap.size w w':=by
 have jt:=kB.lt;have HV:=aa hv;obtain ⟨av,Oz,rfl,py,hst⟩:=hv;obtain ⟨ap,ac,rfl,aq0,aq1⟩:=py.cap;obtain ⟨eN,eR,rfl,hsc1,hsc2⟩:=hst.cap;have ya:=aa py;clear py hst;have I3:=aa kB;obtain ⟨sm,hblk,TZ⟩:=kB;have cU:=aa (ae w (.cells (Tae s ap ac eN eR) 114));have hlk:=fun w' (hm:bi prog 3 w' sm 10 eH)=>(hm.look pF underlying153 (uG w') (lA underlying3 TY)).2;rw [uA] at hlk;obtain ⟨x,hx⟩:∃ x,x=oO s.kind:=⟨_,rfl⟩;rw [<- hx,show jR x=.agg (Tak x) from rfl] at hlk;have HX:=aa hx;clear hx;have HLK:=aa hlk;clear hlk;have hc9:=cr hblk 9 _ rfl
 have HM:=aa TZ;clear TZ;have Vi:=HM.o.lt;clear hblk;have hS:∀ w':World,Below w.heap.size w w'->w'.cell? (Tac w.heap.size 2)=some (.int .i64 s.kind)->w'.cell? (Tac bc 9)=some (.map (some sm))/\w'.cell? (Tac w.heap.size 2)=some (.int .i64 s.kind)/\(Instr.lookup 153 (.map (some sm)) (.int .i64 s.kind) true).run prog w'=.ok (.tuple #[.agg (Tak x),.bool (eH (.int .i64 s.kind)).isSome]) w':=fun w' hb h2 =>
  ⟨(hb.cell (p:=⟨bc,9,none⟩) jt).trans hc9,h2,HLK.o w' (HM.o.block (hb.block _ Vi))⟩
 have HS:=aa hS;clear hS hc9;go_enter func143,ntmps143;go_wp2;generalize hW1:World.alloc w _=W1 at *;have hk2:W1.cell? (Tac w.heap.size 2)=some (.int .i64 s.kind):=by rw [<- hW1];exact aD rfl rfl
 have HW1:=aa hW1;clear hW1;refine aL (fun w'=>w'.cell? (Tac bc 9)=some (.map (some sm))/\w'.cell? (Tac w.heap.size 2)=some (.int .i64 s.kind)/\(Instr.lookup 153 (.map (some sm)) (.int .i64 s.kind) true).run prog w'=.ok (.tuple #[.agg (Tak x),.bool (eH (.int .i64 s.kind)).isSome]) w') 13 [] TcE (HS.o _ cU.o.drew hk2) (fun hHeld=>?_);refine fS 0 hHeld ?_;refine fS 1 hHeld ?_;refine fS 2 hHeld ?_;refine fS 3 hHeld ?_;refine fS 4 hHeld ?_;refine fS 5 hHeld ?_;refine fS 6 hHeld ?_;refine fS 7 hHeld ?_;refine fS 8 hHeld ?_;refine fS 9 hHeld ?_;refine lR 10 fun K hK=>?_;go_simp;have cm:Hid (Below w.heap.size w (W1.drew.alloc (.cells #[.int .i64 0,.int .i64 0,.bool false,.bool false,.int .i64 0,.bool false,.bool false,.bool false,.bool false,.bool false] 192))):=aa (cU.o.drew.alloc (by have:=cU.o.size;simpa using this) _);refine hK.o _ _ (HS.o _ cm.o ?_) ?_
 ·exact (cd (a:=⟨w.heap.size,2,none⟩) (cj _ _ _ (by simpa using cP W1 _ hk2))).trans hk2
 clear hK K;refine lR 11 fun K hK=>?_;go_simp;have cJ:Hid (Below w.heap.size w (W1.alloc (.cells (Tak x) 192)).drew):=aa ((cU.o.alloc cU.o.size _).drew);have hk3:(W1.alloc (.cells (Tak x) 192)).drew.cell? (Tac w.heap.size 2)=some (.int .i64 s.kind):=(cd (a:=⟨w.heap.size,2,none⟩) (cj _ _ _ (cP W1 _ hk2))).trans hk2;refine hK.o _ _ (HS.o _ cJ.o hk3) ?_;clear hK K;refine lR 12 fun K hK=>?_;go_simp;refine hK.o _ _ (HS.o _ cJ.o hk3) ?_;clear hK K hHeld;refine aP TcE rfl ?_;simp only [cQ,km,cL];have Yg:w.heap.size<W1.heap.size:=cP W1 _ hk2;have HN:=aa (b9 W1 (.cells (Tak x) 192));have HG:Hid ((W1.alloc (.cells (Tak x) 192)).drew.heap[w.heap.size]?=some (.cells (Tae s ap ac eN eR) 114 (0,0))):=aa ((cj _ _ _ Yg).trans (by show W1.heap[w.heap.size]?=_;rw [<- HW1.o];exact b9 w _));have hz:(W1.alloc (.cells (Tak x) 192)).drew.heap.size=W1.heap.size+1:=by simp
 have HN:Hid ((W1.alloc (.cells (Tak x) 192)).drew.heap[W1.heap.size]?=some (.cells (Tak x) 192 (0,0))):=HN;clear hk2 hk3 cm HS HLK;generalize hW2:World.drew (World.alloc W1 _)=W2 at *;generalize hBs:W1.heap.size=Bs at *;clear hW2 hBs HW1;have hx7:∀ (j:Nat) (z:Value),[.int .i64 x.least,.int .i64 x.greatest,.bool x.F9,.bool x.several,.int .i64 x.chunk,.bool x.stale,.bool x.pool,.bool x.log,.bool x.mode,.bool x.done][j]?=some z->∀ wr:World,wr.heap[Bs]?=W2.heap[Bs]?->wr.cell? ⟨Bs,j,none⟩=some z:=fun j z hz wr hwr=>by
  simp only [World.cell?,hwr,HN.o];simpa using hz
 have hs7:∀ (j:Nat) (z:Value),[.int .i64 s.start,.int .i64 s.length,.int .i64 s.kind,.slice ap s.Ga.length ac,.int .i64 s.chunk,.slice eN s.stale.length eR,.string s.log,.string s.pool,.int .i64 s.device,.int .i64 s.mode,.int .i64 s.done][j]?=some z->∀ wr:World,wr.heap[w.heap.size]?=W2.heap[w.heap.size]?->wr.cell? ⟨w.heap.size,j,none⟩=some z:=fun j z hz wr hwr=>by
  simp only [World.cell?,hwr,HG.o];simpa using hz
 have MT:=aa hx7;clear hx7;have HS7:=aa hs7;clear hs7;have x0:=MT.o 0 _ rfl W2 rfl;have x1:=MT.o 1 _ rfl W2 rfl;have s0:=HS7.o 0 _ rfl W2 rfl;have s1:=HS7.o 1 _ rfl W2 rfl;have s3:=HS7.o 3 _ rfl W2 rfl;cases KB:shapeOf s.kind with
 | none =>
  have hi:(eH (.int .i64 s.kind)).isSome=false:=by rw [show eH (.int .i64 s.kind)=(shapeOf s.kind).map jR from rfl,KB];rfl
  have HF:Hid (bJ g.Gd s start=false):=aa (jT KB);have QW:=aa KB;clear KB;generalize (eH (.int .i64 s.kind)).isSome=isx at *;subst hi;go_wp2;go_ret;exact ⟨ah HF.o.symm,cJ.o⟩
 | some x' =>
  have hi:(eH (.int .i64 s.kind)).isSome=true:=by rw [show eH (.int .i64 s.kind)=(shapeOf s.kind).map jR from rfl,KB];rfl
  obtain rfl:x=x':=by rw [HX.o];simp [oO,KB]
  have HF:Hid (bJ g.Gd s start=_):=aa (jP KB);have QW:=aa KB;clear KB HX;generalize (eH (.int .i64 s.kind)).isSome=isx at *;subst hi;by_cases c1:s.start=start
  ·skip;by_cases c2:1<=s.length
   ·skip;by_cases c3:s.length<=32768
    ·skip;by_cases c4:x.least<=(s.Ga.length:Int)
     ·skip;by_cases c5:(s.Ga.length:Int)<=x.greatest
      ·skip;have QX:Hid (0<=s.length):=aa TcC;have HC4:=aa c4;have d1:(s.start != start)=false:=by simp [c1]
       have d2:decide (s.length<1)=false:=by simp;omega
       have d3:decide (32768<s.length)=false:=by simp;omega
       have d4:decide ((s.Ga.length:Int)<x.least)=false:=by simp;omega
       have d5:decide (x.greatest<(s.Ga.length:Int))=false:=by simp;omega
       have C1:=aa c1;clear c1;have x2:=MT.o 2 _ rfl W2 rfl;go_wp2;go_loopw [59] (fun i wr=>∃ k:Nat,k<=s.Ga.length/\i=.int .i64 k/\(∀ j r,j<k->s.Ga[j]?=some r->bT x r=true)/\Below w.heap.size w wr/\wr.heap[w.heap.size]?=W2.heap[w.heap.size]?/\wr.heap[Bs]?=W2.heap[Bs]?/\Bs<wr.heap.size) (fun i _=>s.Ga.length - (intOf i).toNat)
       exact ⟨0,cg _,rfl,fun j r hj=>by omega,cJ.o,rfl,rfl,TcC⟩;clear x0 x1 x2 s0 s1 s3;obtain ⟨k,hk,rfl,hall,hB,hw1,hw2,hbz⟩:=hrel;have cE:=aa hall;clear hall;have HW1:=aa hw1;clear hw1;have HW2:=aa hw2;clear hw2;by_cases hlt:k<s.Ga.length
       ·obtain ⟨r,hr⟩:=aj s.Ga k hlt;obtain ⟨b,off,us,rfl,_,cX,ez,eE,hcv⟩:=ya.o.elem hr;obtain rfl:us=_:=eE;have cT:wr.heap[b]?=w.heap[b]?:=hB.block b cX;obtain ⟨q0,q1,q2⟩:=Mn cT hcv;have x2:=MT.o 2 _ rfl wr HW2.o;have bad:Hid (bT x r=false->bJ g.Gd s start=false):=aa fun h=>by
         have:s.Ga.all (bT x)=false:=by
          rw [lr];exact ⟨r,ct hr,TcZ⟩
         rw [HF.o,this];simp
        have good:Hid (bT x r=true->∀ j y,j<k+1->s.Ga[j]?=some y->bT x y=true):=aa fun h j y hj hy=>by
         by_cases hjk:j=k
         ·subst hjk;rw [hr] at hy;cases hy
          exact h
         exact cE.o j y TcC hy
        have Mt:=aa (hB.alloc hB.size (.cells (Tau r) 53));have HO:Hid (bT x r=_):=aa (bT.eq_1 x r);clear hcv ez hr cT;have rel:Hid (∀ o:Obj,bT x r=true->∃ k':Nat,k'<=s.Ga.length/\Value.int .i64 ((k:Int)+1)=.int .i64 k'/\(∀ j y,j<k'->s.Ga[j]?=some y->bT x y=true)/\Below w.heap.size w (wr.alloc o)/\(wr.alloc o).heap[w.heap.size]?=W2.heap[w.heap.size]?/\(wr.alloc o).heap[Bs]?=W2.heap[Bs]?/\Bs<(wr.alloc o).heap.size):=aa fun o h =>
         ⟨k+1,TcC,TcG,good.o h,hB.alloc hB.size _,(cj _ _ _ TcC).trans HW1.o,(cj _ _ _ hbz).trans HW2.o,TcH⟩
        cases I2:x.F9 with
        | true =>
         have OW:=aa I2;rw [I2] at x2;cases hv:r.vol with
         | true =>
          have HV:=aa hv;by_cases hs:r.start=0
          ·have j9:Hid (bT x r=true):=aa (by rw [HO.o,OW.o,HV.o,hs];simp);have e2:(r.start != 0)=false:=by simp [hs]
           have HS0:=aa hs;clear hs;go_wp2;go_roundw;exact rel.o _ j9.o;simp [intOf];omega
          have j9:Hid (bT x r=false):=aa (by rw [HO.o,HV.o];simp [hs]);have e2:(r.start != 0)=true:=by simp [hs]
          go_wp2;go_ret;exact ⟨ah (bad.o j9.o).symm,hB.alloc hB.size _⟩
         | false =>
          have HV:=aa hv;have j9:Hid (bT x r=false):=aa Tet;go_wp2;go_ret;exact ⟨ah (bad.o j9.o).symm,hB.alloc hB.size _⟩
        | false =>
         have OW:=aa I2;rw [I2] at x2;cases hv:r.vol with
         | true =>
          have HV:=aa hv;have j9:Hid (bT x r=false):=aa Tet;go_wp2;go_ret;exact ⟨ah (bad.o j9.o).symm,hB.alloc hB.size _⟩
         | false =>
          have HV:=aa hv;have j9:Hid (bT x r=true):=aa Tet;go_wp2;go_roundw;exact rel.o _ j9.o;simp [intOf];omega
       have hkn:k=s.Ga.length:=by omega
       have QY:Hid (s.Ga.all (bT x)=true):=aa (by
        rw [eL];intro r hr;obtain ⟨j,hj⟩:=fc hr;exact cE.o j r Tdo hj)
       have HF2:Hid (bJ g.Gd s start=(fq g.Gd s.chunk x&&(x.log||s.log.toList.isEmpty)&&(x.pool||s.pool.toList.isEmpty)&&dP s x&&bE s.device 1 65535 x.pool&&bE s.mode 1 2 x.mode&&bE s.done 0 s.length x.done &&
         !(s.kind == 2&&!(s.length % s.Ga.length == 0))&&!(s.kind == 4&&!(s.length % (s.Ga.length - 1) == 0)))):=aa (by
        rw [HF.o,QY.o,C1.o,eA c2,eA c3,eA c4,eA c5];simp)
       clear HF QY cE;obtain ⟨s0,s1,s2,s3,s4,s5,s6,s7,s8,s9,s10⟩:=TJ fun i z h=>HS7.o i z h wr HW1.o;obtain ⟨x0,x1,x2,x3,x4,x5,x6,x7,x8,x9⟩:=TK fun i z h=>MT.o i z h wr HW2.o
       go_wp2_with fail;refine (ni g a bc s x _ _ _ (I3.o.below hB) hg0 hg1 (bC.moves.mv (Mv.of hB) HV.o) (by first | rfl | simp [dm])).mono ?_;rintro e w3 ⟨rfl,hb3⟩;have eI:=aa (hB.trans (hb3.mono hB.size));have NY:=aa ((hb3.block _ TcC).trans HW1.o);have MU:=aa ((hb3.block _ hbz).trans HW2.o);have QZ:Hid (Bs<w3.heap.size):=aa (cC hbz hb3.size);clear hb3 HW1 HW2 hB;clear s0 s1 s2 s3 s4 s5 s6 s7 s8 s9 s10 x0 x1 x2 x3 x4 x5 x6 x7 x8 x9;obtain ⟨s0,s1,s2,s3,s4,s5,s6,s7,s8,s9,s10⟩:=TJ fun i z h=>HS7.o i z h w3 NY.o;obtain ⟨x0,x1,x2,x3,x4,x5,x6,x7,x8,x9⟩:=TK fun i z h=>MT.o i z h w3 MU.o;cases hcb:fq g.Gd s.chunk x with
       | false =>
        go_wp2;go_ret;exact ⟨ah (by rw [HF2.o,hcb];simp),eI.o⟩
       | true =>
        rw [hcb] at HF2;clear hcb;have Lu:(s.log.toList.isEmpty=false/\x.log=false)\/x.log=true\/(x.log=false/\s.log.toList.isEmpty=true):=by cases x.log <;> cases s.log.toList.isEmpty <;> simp
        rcases Lu with ⟨hle,OX⟩ | OX | ⟨OX,hle⟩
        ·go_wp2;go_ret;exact ⟨ah (by rw [HF2.o,OX,hle];simp),eI.o⟩
        all_goals (
         have HLG:=aa OX;have Vj:Hid ((x.log||s.log.toList.isEmpty)=true):=aa (by first | (rw [OX];rfl) | (rw [hle];simp));have Lu:(s.pool.toList.isEmpty=false/\x.pool=false)\/x.pool=true\/(x.pool=false/\s.pool.toList.isEmpty=true):=by cases x.pool <;> cases s.pool.toList.isEmpty <;> simp
         rcases Lu with ⟨Mu,Q1⟩ | Q1 | ⟨Q1,Mu⟩
         ·go_wp2;go_ret;exact ⟨ah (by rw [HF2.o,Q1,Mu];simp),eI.o⟩
         all_goals (
          have Vk:=aa Q1;have NZ:Hid ((x.pool||s.pool.toList.isEmpty)=true):=aa (by first | (rw [Q1];rfl) | (rw [Mu];simp));go_wp2_with fail;refine (jb s x _ _ _ (bC.moves.mv (Mv.of eI.o) HV.o) ha hl (by simp [dm,HLG.o,Vk.o])).mono ?_;rintro e w5 ⟨rfl,hb5⟩;have eK:=Zbl eI hb5;have Lz:=aa ((hb5.block _ (by have:=eI.o.size;have:=QZ.o;omega)).trans NY.o);have Vl:=aa ((hb5.block _ QZ.o).trans MU.o);clear hb5;clear s0 s1 s2 s3 s4 s5 s6 s7 s8 s9 s10 x0 x1 x2 x3 x4 x5 x6 x7 x8 x9;have s1:=HS7.o 1 _ rfl w5 Lz.o;have s2:=HS7.o 2 _ rfl w5 Lz.o;have s3:=HS7.o 3 _ rfl w5 Lz.o;have s8:=HS7.o 8 _ rfl w5 Lz.o;have s9:=HS7.o 9 _ rfl w5 Lz.o;have s10:=HS7.o 10 _ rfl w5 Lz.o;have x6:=MT.o 6 _ rfl w5 Vl.o;have x8:=MT.o 8 _ rfl w5 Vl.o;have x9:=MT.o 9 _ rfl w5 Vl.o;cases hmk:dP s x with
          | false =>
           go_wp2;go_ret;exact ⟨ah (by rw [HF2.o,hmk];simp),eK.o⟩
          | true =>
           have Mw:=aa hmk;clear hmk;go_wp2_with fail;refine (di _ _ _ _ _).mono ?_;rintro e w6 ⟨rfl,rfl⟩;generalize hw1:bE s.device 1 65535 _=b1;cases b1 with
           | false =>
            go_wp2;go_ret;exact ⟨ah (by rw [HF2.o,Vk.o,hw1];simp),eK.o⟩
           | true =>
            have HW1:=aa hw1;clear hw1;go_wp2_with fail;refine (di _ _ _ _ _).mono ?_;rintro e w6 ⟨rfl,rfl⟩;cases hw2:bE s.mode 1 2 x.mode with
            | false =>
             go_wp2;go_ret;exact ⟨ah (by rw [HF2.o,hw2];simp),eK.o⟩
            | true =>
             have HW2':=aa hw2;clear hw2;go_wp2_with fail;refine (di _ _ _ _ _).mono ?_;rintro e w6 ⟨rfl,rfl⟩;cases hw3:bE s.done 0 s.length x.done with
             | false =>
              go_wp2;go_ret;exact ⟨ah (by rw [HF2.o,hw3];simp),eK.o⟩
             | true =>
              have Q5:Hid (bJ g.Gd s start=(!(s.kind == 2&&!(s.length % s.Ga.length == 0))&&!(s.kind == 4&&!(s.length % (s.Ga.length - 1) == 0)))):=aa (by rw [HF2.o,Vj.o,NZ.o,Mw.o,Vk.o,HW1.o,HW2'.o,hw3];simp);clear Mw HW1 HW2' hw3 HF2 Vj NZ;by_cases hk2:s.kind=2
              ·have MV:(s.kind == 2)=true:=by simpa using hk2
               have LA:(s.kind == 4)=false:=by rw [hk2];rfl
               have hal:2<=s.Ga.length:=by
                have:=QW.o;rw [hk2] at this;have:=lu this;have:=HC4.o;omega
               have e0:((s.Ga.length:Int) == 0)=false:=by rw [beq_eq_false_iff_ne];omega
               have e1:s.length.tmod (s.Ga.length:Int)=s.length % (s.Ga.length:Int):=Int.tmod_eq_emod_of_nonneg QX.o;cases hm:(s.length % (s.Ga.length:Int) == 0) with
               | true =>
                have Vm:(s.length % (s.Ga.length:Int) != 0)=false:=by simpa using hm
                have HR:Hid (bJ g.Gd s start=true):=aa (by rw [Q5.o,LA,hm];simp);go_wp2;go_ret;exact ⟨ah HR.o.symm,eK.o⟩
               | false =>
                have Vm:(s.length % (s.Ga.length:Int) != 0)=true:=by simpa using hm
                have HR:Hid (bJ g.Gd s start=false):=aa (by rw [Q5.o,MV,hm];simp);go_wp2;go_ret;exact ⟨ah HR.o.symm,eK.o⟩
              have MV:(s.kind == 2)=false:=by simpa using hk2
              by_cases hk4:s.kind=4
              ·have LA:(s.kind == 4)=true:=by simpa using hk4
               have hal:3<=s.Ga.length:=by
                have:=QW.o;rw [hk4] at this;have:=kC this;have:=HC4.o;omega
               have e0:((s.Ga.length:Int) - 1 == 0)=false:=by simp;omega
               have e1:s.length.tmod ((s.Ga.length:Int) - 1)=s.length % ((s.Ga.length:Int) - 1):=Int.tmod_eq_emod_of_nonneg QX.o;cases hm:(s.length % ((s.Ga.length:Int) - 1) == 0) with
               | true =>
                have Vm:(s.length % ((s.Ga.length:Int) - 1) != 0)=false:=by simpa using hm
                have HR:Hid (bJ g.Gd s start=true):=aa (by rw [Q5.o,MV,hm];simp);go_wp2;go_ret;exact ⟨ah HR.o.symm,eK.o⟩
               | false =>
                have Vm:(s.length % ((s.Ga.length:Int) - 1) != 0)=true:=by simpa using hm
                have HR:Hid (bJ g.Gd s start=false):=aa (by rw [Q5.o,LA,hm];simp);go_wp2;go_ret;exact ⟨ah HR.o.symm,eK.o⟩
              have LA:(s.kind == 4)=false:=by simpa using hk4
              have HR:Hid (bJ g.Gd s start=true):=aa (by rw [Q5.o,MV,LA];rfl);go_wp2;go_ret;exact ⟨ah HR.o.symm,eK.o⟩))
      go_wp2;go_ret;exact ⟨ah (by rw [HF.o,cN (show ¬ (s.Ga.length:Int)<=x.greatest by omega)];simp),cJ.o⟩
     go_wp2;go_ret;exact ⟨ah (by rw [HF.o,cN (show ¬ x.least<=(s.Ga.length:Int) by omega)];simp),cJ.o⟩
    go_wp2;go_ret;exact ⟨ah (by rw [HF.o,cN (show ¬ s.length<=32768 by omega)];simp),cJ.o⟩
   go_wp2;go_ret;exact ⟨ah (by rw [HF.o,cN (show ¬ 1<=s.length by omega)];simp),cJ.o⟩
  go_wp2;go_ret;exact ⟨ah (by rw [HF.o,show (s.start == start)=false from by simpa using c1];simp),cJ.o⟩
theorem Tcg {p:Prop}(h:p:=by
 go_wp2
 all_goals
  go_ret;exact ⟨by simp [nT];try omega,(bj _ _).alloc (bk _) _⟩):p:=h
theorem AQ (s l:Int)(w:World) :
  Calls prog 163 #[.agg #[.int .i64 s,.int .i64 l]] w fun e w'=>e=.returned (.bool (nT s l))/\Below w.heap.size w w':=by
 go_enter func163,ntmps163;exact Tcg
theorem Ir (s l:Int)(w:World) :
  Calls prog 88 #[.agg #[.int .i64 s,.int .i64 l]] w fun e w'=>e=.returned (.bool (nT s l))/\Below w.heap.size w w':=by
 go_enter func88,ntmps88;exact Tcg
theorem G6 {s:Int}(w:World)(b:Bool)(h:nT s l=b) :
  Calls prog 88 #[.agg #[.int .i64 s,.int .i64 l]] w fun e w'=>e=.returned (.bool b)/\Below w.heap.size w w':=h ▸ Ir s l w
theorem zA (l:List (Int × Int))(k:Nat)(x:Int × Int)(h:l[k]?=some x)(hv:nT x.1 x.2=false):dI l=false:=by
 unfold dI;rw [lr];exact ⟨x,ct h,by simp [hv]⟩
theorem Cm (l:List (Int × Int))(k:Nat)(x:Int × Int)(h:l[k]?=some x)(ha:dI (l.take k)=true)(hv:nT x.1 x.2=true):dI (l.take (k+1))=true:=by
 rw [take_snoc' l k x h];unfold dI at *;rw [List.all_append,ha];simp [hv]
theorem Ce (l:List (Int × Int))(k:Nat)(h:l.length<=k)(ha:dI (l.take k)=true):dI l=true:=by
 rw [jz h] at ha;exact ha
def Gp (l:List (Int × Int))(n:Int):Bool:=l.any fun p=>nT p.1 p.2&&decide (p.1<=n)&&decide (n<p.1+p.2)
theorem Ib (l:List (Int × Int))(k:Nat)(x:Int × Int)(n:Int)(h:l[k]?=some x)(hv:nT x.1 x.2=true)(h1:x.1<=n)(h2:n<x.1+x.2):Gp l n=true:=by
 unfold Gp;rw [nh];exact ⟨x,ct h,by simp [hv,h1,h2]⟩
theorem Gw (l:List (Int × Int))(k:Nat)(x:Int × Int)(n:Int)(h:l[k]?=some x)(ha:Gp (l.take k) n=false)(hv:nT x.1 x.2=false\/n<x.1\/x.1+x.2<=n):Gp (l.take (k+1)) n=false:=by
 rw [take_snoc' l k x h];unfold Gp at *;rw [rj,ha];simp;intro a b;rcases hv with hv | hv | hv
 ·rw [hv] at a;cases a
 ·omega
 omega
theorem Ii (l:List (Int × Int))(k:Nat)(n:Int)(h:l.length<=k)(ha:Gp (l.take k) n=false):Gp l n=false:=by
 rw [jz h] at ha;exact ha
theorem En {s:Int}(h:nT s l=true):0<=s/\0<=l/\s<=1073741824/\l<=1073741824 - s:=by
 unfold nT at h;simp at h;omega
theorem Gz (l:List (Int × Int))(n:Int)(v:Value)(w:World)(hn:n<=9223372036854775807)(hr:xo w v l) :
  Calls prog 40 #[v,.int .i64 n] w fun e w'=>e=.returned (.bool (Gp l n))/\Below w.heap.size w w':=by
 obtain ⟨p,cap,rfl,hlc,ij,hp⟩:=hr;go_enter func40,ntmps40;go_wp2
 go_loopw [5] (fun i wr=>∃ k:Nat,k<=l.length/\i=.int .i64 k/\Gp (l.take k) n=false/\Below w.heap.size w wr) (fun i _=>l.length - (intOf i).toNat)
 exact ⟨0,cg _,rfl,rfl,bj _ _⟩;obtain ⟨k,hk,rfl,hall,hb⟩:=hrel;have cE:=aa hall;clear hall;by_cases hlt:k<l.length
 ·obtain ⟨b,off,rfl,gO,hc⟩:=hp TcC;obtain ⟨x,hx⟩:=aj l k hlt;have hcc:=(hc.below hb gO) k x hx;have cX:b<wr.heap.size:=cC gO hb.size;have hc1:=aG cX hcc.1;have hc2:=aG cX hcc.2;have HX:=aa hx;clear hc hp hcc hx;cases hv:nT x.1 x.2
  ·go_wp2_with fail;(refine aU TcE TcE ?_;(repeat (go_big_quiet_step ((go_at_call 88;exact iH (G6 _ _ hv)))));(with_reducible refine fR ?_);intro wq ia;have kq:=dY ia;clear ia)
   go_wp2;go_roundw;exact ⟨k+1,TcC,TcG,Gw l k x n HX.o cE.o (.inl hv),mn hb kq⟩;simp [intOf];omega
  have hv':=En hv;obtain ⟨hv1,hv2,hv3,hv4⟩:=hv';by_cases h1:x.1<=n
  ·have hw1:IntKind.i64.wrap (n - x.1)=n - x.1:=dy _ TcC;by_cases h2:n - x.1<x.2
   ·go_wp2_with fail;(refine aU TcE TcE ?_;(repeat (go_big_quiet_step ((go_at_call 88;exact iH (G6 _ _ hv)))));(with_reducible refine fR ?_);intro wq ia;have kq:=dY ia;clear ia)
    go_wp2;go_ret;exact ⟨ah (Ib l k x n HX.o hv h1 TcC).symm,mn hb kq⟩
   have h2':decide (n - x.1<x.2)=false:=by simp;omega
   go_wp2_with fail;(refine aU TcE TcE ?_;(repeat (go_big_quiet_step ((go_at_call 88;exact iH (G6 _ _ hv)))));(with_reducible refine fR ?_);intro wq ia;have kq:=dY ia;clear ia)
   go_wp2;go_roundw;exact ⟨k+1,TcC,TcG,Gw l k x n HX.o cE.o (.inr (.inr TcC)),mn hb kq⟩;simp [intOf];omega
  have h1':decide (x.1<=n)=false:=by simp;omega
  go_wp2_with fail;(refine aU TcE TcE ?_;(repeat (go_big_quiet_step ((go_at_call 88;exact iH (G6 _ _ hv)))));(with_reducible refine fR ?_);intro wq ia;have kq:=dY ia;clear ia)
  go_wp2;go_roundw;exact ⟨k+1,TcC,TcG,Gw l k x n HX.o cE.o (.inr (.inl TcC)),mn hb kq⟩;simp [intOf];omega
 go_wp2;go_ret;exact ⟨ah (Ii l k n TcC cE.o).symm,hb⟩
end Go.Proofs.YtaagglbgohjldaaGreatDoor
