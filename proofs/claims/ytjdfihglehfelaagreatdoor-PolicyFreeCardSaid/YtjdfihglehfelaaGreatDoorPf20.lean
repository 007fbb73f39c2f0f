/- Lemmas: ModI. -/
import Derived.Test.YtjdfihglehfelaaGreatDoorPf18
import Derived.Test.YtjdfihglehfelaaGreatDoorPf19
set_option maxRecDepth 100000
set_option maxHeartbeats 32000000
set_option linter.all false
namespace Go.Proofs.YtjdfihglehfelaaGreatDoor
open Go.Proofs.Tryz
open Go.RowKit Go.Maps Go.Shelf
structure wM (s:aB):Prop where
 l0:1<=s.length
 l1:s.length<=32768
 ar:s.Ga.length<=6
 p5:s.kind=5->2<=s.Ga.length
 p7:s.kind=7->3<=s.Ga.length
def fI (g:af)(s:aB)(r:aR):Bool:=r.vol||(decide (0<=r.start)&&decide (r.start<=((bH g.Gb r.on).getD gT).Gc)&&decide (iB s.kind s.length s.Ga.length<=((bH g.Gb r.on).getD gT).Gc - r.start))
def dh (g:af)(nm:ByteArray):Bool:=eZ ((aM g.F9 nm).getD eY) == 6||eZ ((aM g.F9 nm).getD eY) == 5
def mM (g:af)(v:ay)(s:aB):Int :=
 if jw g s=false then 12 else if s.Ga.all (fI g s)=false then 1 else if jS v s=false then 10 else if s.kind=6/\¬ eZ ((aM g.F9 s.pool).getD eY)=5 then 17
 else if (dD s false).any (dh g)=true then 17 else 0
theorem zV {k l:Int}{n:Nat}(h0:0<=l):0<=iB k l n/\iB k l n<=l:=by
 unfold iB;split
 ·exact ⟨lz h0 (by omega),mS _ h0⟩
 ·omega
theorem Da {Gb:List az}{nm:ByteArray}(h:∀ d∈Gb,0<=d.Gc/\d.Gc<=1000000):0<=((bH Gb nm).getD gT).Gc/\((bH Gb nm).getD gT).Gc<=1000000:=by
 cases hf:bH Gb nm with
 | none=>simp [gT]
 | some d=>exact h d (eV hf)
theorem pK {ok:Nat->Prop}(g:af)(a:bN)(bc Bc:Nat)(v:ay)(s:aB)(u1 u2:List Value)(w:World)(kB:gY w bc g a)(hcc:w.cell? ⟨Bc,0,none⟩=some (.pointer (some ⟨bc,0,none⟩)))(Hh:Bc<w.heap.size)(hg:dN ok w g a)(hz:JT g)(vu:∀ d∈g.Gb,0<=d.Gc/\d.Gc<=1000000)
  (hv:aN ok w u1 v) (hs:bC ok w u2 s) (hf:wM s) (eE:qD v) (hS:AW w) (Jf:v.name.size<=1000000000) :
  Calls prog 142 #[.agg u1.toArray,.agg u2.toArray,.pointer (some ⟨Bc,0,none⟩)] w fun e w'=>e=.returned (.int .i64 (mM g v s))/\Below w.heap.size w w':=by
 have jt:=kB.lt;have My:=aa hv;have KF:=aa hs;obtain ⟨tv,sv,rfl,ew,fL⟩:=hv;obtain ⟨tp,tc,rfl,_,_⟩:=ew.cap;obtain ⟨sp,sc,rfl,_,_⟩:=fL.cap;obtain ⟨av,kp,rfl,gg,hst⟩:=hs;obtain ⟨ap,ac,rfl,Jl,Jm⟩:=gg.cap;obtain ⟨eN,eR,rfl,hsc1,hsc2⟩:=hst.cap;have ya:=aa gg;clear ew fL gg hst;have I3:=aa kB;obtain ⟨sm,hblk,_⟩:=kB;have nw:Hid (bX w bc sm g a):=aa hblk;clear hblk;have HG:=aa hg;clear hg;have HZ:=aa hz;clear hz;have kj:=aa vu;clear vu;have Nb:=aa hS;clear hS;have O6:=aa hf;have hl0:=hf.l0;have hl1:=hf.l1;have LB:=hf.ar;clear hf;have J5:=aa hcc;clear hcc;have hb2:=(ae w (.cells #[.string v.name,.int .u64 v.id,.bool v.hidden,.bool v.ro,.slice tp v.tags.length tc,.slice sp v.Gf.length sc] 55)).trans ((ae (w.alloc (.cells #[.string v.name,.int .u64 v.id,.bool v.hidden,.bool v.ro,.slice tp v.tags.length tc,.slice sp v.Gf.length sc] 55)) (.cells #[.int .i64 s.start,.int .i64 s.length,.int .i64 s.kind,.slice ap s.Ga.length ac,.int .i64 s.chunk,.slice eN s.stale.length eR,.string s.log,.string s.pool,.int .i64 s.device,.int .i64 s.mode,.int .i64 s.done] 79)).mono (ae w _).size);have h0:((w.alloc (.cells #[.string v.name,.int .u64 v.id,.bool v.hidden,.bool v.ro,.slice tp v.tags.length tc,.slice sp v.Gf.length sc] 55)).alloc (.cells #[.int .i64 s.start,.int .i64 s.length,.int .i64 s.kind,.slice ap s.Ga.length ac,.int .i64 s.chunk,.slice eN s.stale.length eR,.string s.log,.string s.pool,.int .i64 s.device,.int .i64 s.mode,.int .i64 s.done] 79)).heap[w.heap.size]?=some (.cells #[.string v.name,.int .u64 v.id,.bool v.hidden,.bool v.ro,.slice tp v.tags.length tc,.slice sp v.Gf.length sc] 55 (0,0)):=(cj _ _ _ (by simp)).trans (b9 w _)
 have h1:((w.alloc (.cells #[.string v.name,.int .u64 v.id,.bool v.hidden,.bool v.ro,.slice tp v.tags.length tc,.slice sp v.Gf.length sc] 55)).alloc (.cells #[.int .i64 s.start,.int .i64 s.length,.int .i64 s.kind,.slice ap s.Ga.length ac,.int .i64 s.chunk,.slice eN s.stale.length eR,.string s.log,.string s.pool,.int .i64 s.device,.int .i64 s.mode,.int .i64 s.done] 79)).heap[w.heap.size+1]?=some (.cells #[.int .i64 s.start,.int .i64 s.length,.int .i64 s.kind,.slice ap s.Ga.length ac,.int .i64 s.chunk,.slice eN s.stale.length eR,.string s.log,.string s.pool,.int .i64 s.device,.int .i64 s.mode,.int .i64 s.done] 79 (0,0)):=by
  have:=b9 (w.alloc (.cells #[.string v.name,.int .u64 v.id,.bool v.hidden,.bool v.ro,.slice tp v.tags.length tc,.slice sp v.Gf.length sc] 55)) (.cells #[.int .i64 s.start,.int .i64 s.length,.int .i64 s.kind,.slice ap s.Ga.length ac,.int .i64 s.chunk,.slice eN s.stale.length eR,.string s.log,.string s.pool,.int .i64 s.device,.int .i64 s.mode,.int .i64 s.done] 79);rw [cW] at this;exact this
 have cm:=aa hb2;clear hb2;have H0:=aa h0;clear h0;have H1:=aa h1;clear h1;have c0:=(cm.o.cell (p:=⟨Bc,0,none⟩) Hh).trans J5.o;have HF:Hid (mM g v s=_):=aa (mM.eq_1 g v s);go_enter func142,ntmps142
 go_wp2_with fail
 generalize hW2:World.alloc (World.alloc w _) _=W2 at *;clear hW2 c0;refine (vC (ok:=ok) g a bc s _ _ (I3.o.below cm.o) (HG.o.mv (Mv.of cm.o)) HZ.o (bC.moves.mv (Mv.of cm.o) KF.o) (by omega)).mono ?_;rintro e w3 ⟨rfl,hb3⟩;have cJ:=aa (cm.o.trans (hb3.mono cm.o.size));have H03:=aa ((hb3.block _ (aq H0.o)).trans H0.o);have H13:=aa ((hb3.block _ (aq H1.o)).trans H1.o);clear hb3 H0 H1;generalize hex:jw g s=ex at *;clear hex
 have LI:∀ wr:World,wr.heap[w.heap.size+1]?=some (.cells #[.int .i64 s.start,.int .i64 s.length,.int .i64 s.kind,.slice ap s.Ga.length ac,.int .i64 s.chunk,.slice eN s.stale.length eR,.string s.log,.string s.pool,.int .i64 s.device,.int .i64 s.mode,.int .i64 s.done] 79 (0,0))->∀ (j:Nat) (z:Value),[.int .i64 s.start,.int .i64 s.length,.int .i64 s.kind,.slice ap s.Ga.length ac,.int .i64 s.chunk,.slice eN s.stale.length eR,.string s.log,.string s.pool,.int .i64 s.device,.int .i64 s.mode,.int .i64 s.done][j]?=some z->wr.cell? ⟨w.heap.size+1,j,none⟩=some z:=fun wr h j z hz=>by
  simp only [World.cell?,h];simpa using hz
 have Rm:∀ wr:World,wr.heap[w.heap.size]?=some (.cells #[.string v.name,.int .u64 v.id,.bool v.hidden,.bool v.ro,.slice tp v.tags.length tc,.slice sp v.Gf.length sc] 55 (0,0))->∀ (j:Nat) (z:Value),[.string v.name,.int .u64 v.id,.bool v.hidden,.bool v.ro,.slice tp v.tags.length tc,.slice sp v.Gf.length sc][j]?=some z->wr.cell? ⟨w.heap.size,j,none⟩=some z:=fun wr h j z hz=>by
  simp only [World.cell?,h];simpa using hz
 have SL:=aa LI;clear LI;have VL:=aa Rm;clear Rm;cases ex with
 | false =>
  have HR:Hid (mM g v s=12):=aa (by rw [HF.o,aw rfl]);go_wp2;go_ret;exact ⟨bB HR.o.symm,cJ.o⟩
 | true =>
  rw [bh (by simp)] at HF;have s3:=SL.o w3 H13.o 3 _ rfl;go_wp2;clear s3
  go_loopw [23] (fun i wr=>∃ k:Nat,k<=s.Ga.length/\i=.int .i64 k/\(∀ j r,j<k->s.Ga[j]?=some r->fI g s r=true)/\Below w.heap.size w wr/\wr.heap[w.heap.size]?=some (.cells #[.string v.name,.int .u64 v.id,.bool v.hidden,.bool v.ro,.slice tp v.tags.length tc,.slice sp v.Gf.length sc] 55 (0,0))/\wr.heap[w.heap.size+1]?=some (.cells #[.int .i64 s.start,.int .i64 s.length,.int .i64 s.kind,.slice ap s.Ga.length ac,.int .i64 s.chunk,.slice eN s.stale.length eR,.string s.log,.string s.pool,.int .i64 s.device,.int .i64 s.mode,.int .i64 s.done] 79 (0,0))) (fun i _=>s.Ga.length - (intOf i).toNat)
  case atStart=>exact ⟨0,cg _,rfl,fun j r hj=>by omega,cJ.o,H03.o,H13.o⟩
  case round =>
   clear H03 H13 cJ;obtain ⟨k,hk,rfl,hall,hB,hx0,hx1⟩:=hrel;have cE:=aa hall;clear hall;have H03:=aa hx0;clear hx0;have H13:=aa hx1;clear hx1
   by_cases hlt:k<s.Ga.length
   ·obtain ⟨r,hr⟩:=aj s.Ga k hlt
    obtain ⟨b,off,us,rfl,_,cX,ez,wj,hcv⟩:=ya.o.elem hr;obtain rfl:us=_:=wj;have cT:wr.heap[b]?=w.heap[b]?:=hB.block b cX;obtain ⟨q0,q1,q2⟩:=Mn cT hcv;have HR:=aa hr;clear hr;clear hcv ez cT
    go_upto_region 6 with (fail)
    clear q0 q1 q2;have ox:=aa (b9 wr (.cells #[.bool r.vol,.string r.on,.int .i64 r.start] 60));have eK:=aa (hB.trans ((ae wr (.cells #[.bool r.vol,.string r.on,.int .i64 r.start] 60)).mono hB.size));have H05:=aa ((cj wr (.cells #[.bool r.vol,.string r.on,.int .i64 r.start] 60) _ (aq H03.o)).trans H03.o);have H15:=aa ((cj wr (.cells #[.bool r.vol,.string r.on,.int .i64 r.start] 60) _ (aq H13.o)).trans H13.o);have mA:=hB.size;generalize hW5:World.alloc wr _=W5 at *;generalize JY:wr.heap.size=Bs at *;clear hW5;refine pI (ok:=ok) _ _ _ _ _ _ _ _ _ _ _ _ _ _ _ _ _ _ _ _ _ _ _ _ _ _ _ _ _ _ _ _ _ _ _ _ _ _ _ _ _ _ _ _ _ _ _ _ _ _ _ _ _ _ _ _ _ _ _ _ _ _ _ _ _ _ _ _ _ _ _ _ _ _ _ _ _ _ _ _ _ _ _ _ _ _ _ _ _ _ _ _ _ _ _ _ _ _ _ _ _ _ _ _ _ _ _ W5 g a bc sm Bs r.on Bc (cC Hh eK.o.size) ((eK.o.cell (p:=⟨Bc,0,none⟩) Hh).trans J5.o) ((eK.o.block bc jt).trans nw.o) (by simp [World.cell?,ox.o]) (aq ox.o) (HG.o.mv (Mv.of eK.o)) HZ.o _ _ rfl rfl (aa ?_) (fun _ _ _ _ _ h=>h);intro tp8 tc8 b8 W7 hb7 hb8 hblk8 _;have wk:=aa (eK.o.trans (hb7.mono eK.o.size));have H07:=aa ((hb7.block _ (aq H05.o)).trans H05.o);have H17:=aa ((hb7.block _ (aq H15.o)).trans H15.o);have KE:=(hb7.block _ (aq ox.o)).trans ox.o;have v0:=cr KE 0 _ rfl;have v2:=cr KE 2 _ rfl;have d3:=cr hblk8 3 _ rfl
    have hdb:=Da (nm:=r.on) kj.o;clear hb7 hb8 hblk8 KE ox eK H05 H15
    have o0:Hid (fI g s r=false->mM g v s=1):=aa fun h=>by
     rw [HF.o,aw];rw [lr];exact ⟨r,ct HR.o,by simp [h]⟩
    have kh:Hid (fI g s r=true->∀ j y,j<k+1->s.Ga[j]?=some y->fI g s y=true):=aa fun h j y hj hy=>by
     by_cases hjk:j=k
     ·subst hjk
      rw [HR.o] at hy;cases hy
      exact h
     ·exact cE.o j y (by omega) hy
    have Rn:Hid (fI g s r=_):=aa (fI.eq_1 g s r);generalize (bH g.Gb r.on).getD gT=d at *;generalize (bH g.Gb r.on).isSome=dis at *;have hl7:=aq H17.o;cases Na:r.vol with
    | true =>
     rw [Na] at v0;have j9:Hid (fI g s r=true):=aa (by rw [Rn.o,Na];rfl)
     go_upto_region 7 with (fail)
     go_quiet (fail);go_wp2;go_roundw
     case rel=>exact ⟨k+1,by omega,by go_num,kh.o j9.o,aT wk.o _,H07.o,H17.o⟩
     case measure=>simp [intOf];omega
    | false =>
     rw [Na] at v0
     by_cases c0:0<=r.start
     ·by_cases c1:r.start<=d.Gc
      ·have y:=SL.o W7 H17.o
       obtain ⟨s0,s1,s2,s3,s4,s5,s6,s7,s8,s9,s10⟩:=IC y;have q0:decide (r.start<0)=false:=by simp;omega
       have q1:decide (d.Gc<r.start)=false:=by simp;omega
       have hw1:IntKind.i64.wrap (d.Gc - r.start)=d.Gc - r.start:=dy _ (by omega);clear y
       go_upto_region 7 with (fail)
       have ev0:=aG (cP W7 _ v0) v0;have ev2:=aG (cP W7 _ v2) v2;have ed3:=aG (cP W7 _ d3) d3;have es0:=aG (cP W7 _ s0) s0;have es1:=aG (cP W7 _ s1) s1;have es2:=aG (cP W7 _ s2) s2;have es3:=aG (cP W7 _ s3) s3;have es4:=aG (cP W7 _ s4) s4;have es5:=aG (cP W7 _ s5) s5;have es6:=aG (cP W7 _ s6) s6;have es7:=aG (cP W7 _ s7) s7;have es8:=aG (cP W7 _ s8) s8;have es9:=aG (cP W7 _ s9) s9;have es10:=aG (cP W7 _ s10) s10;have hen:=zV (k:=s.kind) (l:=s.length) (n:=s.Ga.length) (by omega);have HEB:Hid (Below w.heap.size w W7):=wk
       (refine aU (by kernel_rfl) (by kernel_rfl) ?_;(repeat (go_big_quiet_step ((go_at_call 144;exact iH (ji _ _ _ _ _ _ _ _ _ _ _ _ _ _ _ _ (by omega) (by omega) (by omega))))));(with_reducible refine fR ?_);intro wq ia;have kq:=dY ia;clear ia)
       have fy:=aa (wk.o.trans (kq.mono wk.o.size));have H0W:=aa ((kq.block _ (aq H07.o)).trans H07.o);have O7:=aa ((kq.block _ (aq H17.o)).trans H17.o);clear kq ev0 ev2 ed3 es0 es1 es2 es3 es4 es5 es6 es7 es8 es9 es10
       by_cases c2:iB s.kind s.length s.Ga.length<=d.Gc - r.start
       ·have j9:Hid (fI g s r=true):=aa (by rw [Rn.o,Na,eA c0,eA c1,eA c2];rfl)
        have q2:decide (d.Gc - r.start<iB s.kind s.length s.Ga.length)=false:=by simp;omega
        go_wp2;go_roundw
        case rel=>exact ⟨k+1,by omega,by go_num,kh.o j9.o,fy.o,H0W.o,O7.o⟩
        case measure=>simp [intOf];omega
       ·have j9:Hid (fI g s r=false):=aa (by rw [Rn.o,Na,cN c2];simp)
        have q2:decide (d.Gc - r.start<iB s.kind s.length s.Ga.length)=true:=by simp;omega
        go_wp2;go_ret;exact ⟨bB (o0.o j9.o).symm,fy.o⟩
      ·have j9:Hid (fI g s r=false):=aa (by rw [Rn.o,Na,cN c1];simp)
       have q0:decide (r.start<0)=false:=by simp;omega
       have q1:decide (d.Gc<r.start)=true:=by simp;omega
       go_upto_region 7 with (fail)
       go_quiet (fail);go_wp2;go_ret;exact ⟨bB (o0.o j9.o).symm,aT wk.o _⟩
     ·have j9:Hid (fI g s r=false):=aa (by rw [Rn.o,Na,cN c0];simp)
      have q0:decide (r.start<0)=true:=by simp;omega
      go_upto_region 7 with (fail)
      go_quiet (fail);go_wp2;go_ret;exact ⟨bB (o0.o j9.o).symm,aT wk.o _⟩
   ·have QY:Hid (¬ s.Ga.all (fI g s)=false):=aa (by
     rw [Bool.not_eq_false,eL];intro r hr;obtain ⟨j,hj⟩:=fc hr
     exact cE.o j r (by have:=(List.getElem?_eq_some_iff.1 hj).1;omega) hj)
    rw [bh QY.o] at HF;clear QY cE;have y:=SL.o wr H13.o;obtain ⟨s0,s1,s2,s3,s4,s5,s6,s7,s8,s9,s10⟩:=IC y;have y':=VL.o wr H03.o;obtain ⟨v0,v1,v2,v3,v4,v5⟩:=JR y';have K5:=aa hB
    go_wp2_with fail
    clear s0 s1 s2 s3 s4 s5 s6 s7 s8 s9 s10 y v0 v1 v2 v3 v4 v5 y';refine (Bo (ok:=ok) v s _ _ _ (aN.moves.mv (Mv.of K5.o) My.o) (bC.moves.mv (Mv.of K5.o) KF.o) (by omega) (Nb.o.below K5.o) Jf O6.o.p5 O6.o.p7).mono ?_;rintro e w4 ⟨rfl,hb4⟩;have eI:=aa (K5.o.trans (hb4.mono K5.o.size));have H04:=aa ((hb4.block _ (aq H03.o)).trans H03.o);have H14:=aa ((hb4.block _ (aq H13.o)).trans H13.o);clear hb4 H03 H13 K5 hB;generalize pD:jS v s=nb at *;clear pD;cases nb with
    | false =>
     rw [aw rfl] at HF;go_wp2;go_ret;exact ⟨bB HF.o.symm,eI.o⟩
    | true =>
     rw [bh (by simp)] at HF;have s2:=SL.o w4 H14.o 2 _ rfl
     by_cases hk6:s.kind=6
     ·have VA:(s.kind == 6)=true:=by simpa using hk6
      have HK6:=aa hk6;clear hk6
      go_upto_region 13 with (fail)
      clear s2;refine oG (ok:=ok) _ _ _ _ _ _ _ _ _ _ _ _ _ _ _ _ _ _ _ _ _ _ _ _ _ _ _ _ _ _ _ _ _ _ _ _ _ _ _ _ _ _ _ _ _ _ _ _ _ _ _ _ _ _ _ _ _ _ _ _ _ _ _ _ _ _ _ _ _ _ _ _ _ _ _ _ _ _ _ _ _ _ _ _ _ _ _ _ _ _ _ _ _ _ _ _ _ _ _ _ _ _ _ _ _ _ _ w4 g a bc sm _ s.pool Bc (cC Hh eI.o.size) ((eI.o.cell (p:=⟨Bc,0,none⟩) Hh).trans J5.o) ((eI.o.block bc jt).trans nw.o) (SL.o w4 H14.o 7 _ rfl) (aq H14.o) (HG.o.mv (Mv.of eI.o)) HZ.o _ _ rfl rfl (aa ?_) (fun _ _ _ _ _ h=>h);intro tp8 tc8 sp8 sc8 b8 W7 hb7 hb8 hblk8 hv7;have wk:=aa (eI.o.trans (hb7.mono eI.o.size));have H07:=aa ((hb7.block _ (aq H04.o)).trans H04.o);have H17:=aa ((hb7.block _ (aq H14.o)).trans H14.o);have HV7:=aa hv7
      have mb:((aM g.F9 s.pool).getD eY).Gf.length<=1000000:=by
       cases hf:aM g.F9 s.pool with
       | none=>exact cg _
       | some y=>exact (HZ.o.vz y (eV hf)).Gf
      generalize (aM g.F9 s.pool).isSome=fd at *;generalize (aM g.F9 s.pool).getD eY=vx at *
      have bL:=cr hblk8
      obtain ⟨n0,n1,n2,n3,n4,n5⟩:=JR bL;clear bL hb7 hb8 hblk8 hv7 H04 H14 eI
      go_wp2_with fail
      refine (kU vx _ _ HV7.o (by omega)).mono ?_;rintro e w5 ⟨rfl,hb5⟩;have eK:=aa (wk.o.trans (hb5.mono wk.o.size));have H05:=aa ((hb5.block _ (aq H07.o)).trans H07.o);have H15:=aa ((hb5.block _ (aq H17.o)).trans H17.o);clear hb5 H07 H17 wk n0 n1 n2 n3 n4 n5
      by_cases k5:eZ vx=5
      ·have LH:(eZ vx != 5)=false:=by simpa using k5
       rw [bh (fun h=>h.2 k5)] at HF;have HK5:=aa k5;clear k5;have y:=SL.o w5 H15.o;obtain ⟨s0,s1,s2,s3,s4,s5,s6,s7,s8,s9,s10⟩:=IC y
       go_wp2_with fail
       clear s0 s1 s2 s3 s4 s5 s6 s7 s8 s9 s10 y;refine (kN (ok:=ok) s false _ _ (bC.moves.mv (Mv.of eK.o) KF.o) (by omega)).mono ?_;rintro e w6 ⟨uv,rfl,how,hb6⟩;have kf:=how.rd (ok:=fun _=>True) (fun _ _=>trivial);obtain ⟨up,uc,rfl,O3,O4⟩:=kf.cap;have B2:=aa kf;clear kf how;have qs:=aa (eK.o.trans (hb6.mono eK.o.size));clear hb6;have ez:(dD s false).length<=1000002:=oL s false (by omega);generalize hL:dD s false=L at *;clear hL;go_wp2
       go_loopw [86] (fun i wr=>∃ k:Nat,k<=L.length/\i=.int .i64 k/\(∀ j x,j<k->L[j]?=some x->dh g x=false)/\Below w6.heap.size w6 wr) (fun i _=>L.length - (intOf i).toNat)
       case atStart=>exact ⟨0,cg _,rfl,fun j r hj=>by omega,bj _ _⟩
       case round =>
        obtain ⟨k,hk,rfl,hall,hB⟩:=hrel;have sR:=aa hall;clear hall
        by_cases hlt:k<L.length
        ·obtain ⟨x,hx⟩:=aj L k hlt
         obtain ⟨b,off,us,rfl,_,cX,wb,wj,hcv⟩:=B2.o.elem hx;obtain rfl:us=_:=wj;have q0:=(hB.cell (p:=⟨b,off+k*1+0,none⟩) cX).trans (hcv 0 _ rfl);rw [fp,fg] at q0;have HX:=aa hx;clear hx;have fy:=aa (qs.o.trans (hB.mono qs.o.size));obtain ⟨g0,g1,g2,g3,g4,g5,g6,g7,g8⟩:=bX.cells (sm:=sm) ((fy.o.block bc jt).trans nw.o);have cc:=(fy.o.cell (p:=⟨Bc,0,none⟩) Hh).trans J5.o;clear hcv wb
         go_wp2_with fail
         clear g0 g1 g2 g3 g4 g5 g6 g7 g8 cc;refine (fA (ok:=ok) g a x _ (HG.o.mv (Mv.of fy.o)).F9 HZ.o.vl HZ.o.vz).mono ?_;rintro e w8 ⟨u8,rfl,hv8,hb8⟩;have O8:=aa hv8;obtain ⟨t8,s8,rfl,ht8,hs8⟩:=hv8;obtain ⟨tp8,tc8,rfl,_,_⟩:=ht8.cap;obtain ⟨sp8,sc8,rfl,_,_⟩:=hs8.cap;clear ht8 hs8;have hB8:Below w6.heap.size w6 w8:=hB.trans (hb8.mono hB.size);have Ix:=aa hB8
         have o0:Hid (dh g x=true->mM g v s=17):=aa fun h=>by
          rw [HF.o,aw];rw [nh];exact ⟨x,ct HX.o,h⟩
         have kh:Hid (dh g x=false->∀ j y,j<k+1->L[j]?=some y->dh g y=false):=aa fun h j y hj hy=>by
          by_cases hjk:j=k
          ·subst hjk
           rw [HX.o] at hy;cases hy
           exact h
          ·exact sR.o j y (by omega) hy
         have F2:Hid (dh g x=_):=aa (dh.eq_1 g x)
         have mb:((aM g.F9 x).getD eY).Gf.length<=1000000:=by
          cases hf:aM g.F9 x with
          | none=>exact cg _
          | some y=>exact (HZ.o.vz y (eV hf)).Gf
         generalize (aM g.F9 x).isSome=fd at *;generalize (aM g.F9 x).getD eY=vx at *;have hA:=ae w8 (.cells #[.string vx.name,.int .u64 vx.id,.bool vx.hidden,.bool vx.ro,.slice tp8 vx.tags.length tc8,.slice sp8 vx.Gf.length sc8] 55);have K7:=aa (b9 w8 (.cells #[.string vx.name,.int .u64 vx.id,.bool vx.hidden,.bool vx.ro,.slice tp8 vx.tags.length tc8,.slice sp8 vx.Gf.length sc8] 55));have Nc:=aa (aN.moves.mv (Mv.of hA) O8.o);have pL:=aa (hB8.trans (hA.mono hB8.size));have VB:=aa (aq (b9 w8 (.cells #[.string vx.name,.int .u64 vx.id,.bool vx.hidden,.bool vx.ro,.slice tp8 vx.tags.length tc8,.slice sp8 vx.Gf.length sc8] 55)));clear hA hb8 hB8
         go_wp2_with fail
         generalize DA:World.alloc w8 _=WA at *;clear DA;refine (kU vx _ _ Nc.o (by omega)).mono ?_;rintro e w9 ⟨rfl,hb9⟩;have J1:=aa (pL.o.trans (hb9.mono pL.o.size));have VC:=aa (aN.moves.mv (Mv.of hb9) Nc.o);have LJ:=(hb9.block _ VB.o).trans K7.o
         have bL:=cr LJ
         obtain ⟨n0,n1,n2,n3,n4,n5⟩:=JR bL;clear bL LJ hb9
         by_cases k6:eZ vx=6
         ·have O9:(eZ vx == 6)=true:=by simpa using k6
          have j9:Hid (dh g x=true):=aa (by rw [F2.o,O9];rfl);go_wp2;go_ret;exact ⟨bB (o0.o j9.o).symm,qs.o.trans (J1.o.mono qs.o.size)⟩
         ·have O9:(eZ vx == 6)=false:=by simpa using k6
          go_wp2_with fail
          refine (kU vx _ _ VC.o (by omega)).mono ?_;rintro e w10 ⟨rfl,hb10⟩;have Ax:=aa (J1.o.trans (hb10.mono J1.o.size));clear hb10
          by_cases k5:eZ vx=5
          ·have LH:(eZ vx == 5)=true:=by simpa using k5
           have j9:Hid (dh g x=true):=aa (by rw [F2.o,LH];simp);go_wp2;go_ret;exact ⟨bB (o0.o j9.o).symm,qs.o.trans (Ax.o.mono qs.o.size)⟩
          ·have LH:(eZ vx == 5)=false:=by simpa using k5
           have j9:Hid (dh g x=false):=aa (by rw [F2.o,O9,LH];rfl);go_wp2;go_roundw
           case rel=>exact ⟨k+1,by omega,by go_num,kh.o j9.o,Ax.o⟩
           case measure=>simp [intOf];omega
        ·have fy:=aa (qs.o.trans (hB.mono qs.o.size))
         have HR:Hid (mM g v s=0):=aa (by
          rw [HF.o,bh];intro h;rw [nh] at h;obtain ⟨x,hx,hb⟩:=h;obtain ⟨j,hj⟩:=fc hx;rw [sR.o j x (by have:=(List.getElem?_eq_some_iff.1 hj).1;omega) hj] at hb
          cases hb)
         go_wp2;go_ret;exact ⟨bB HR.o.symm,fy.o⟩
      ·have LH:(eZ vx != 5)=true:=by simpa using k5
       rw [aw ⟨HK6.o,k5⟩] at HF;go_wp2;go_ret;exact ⟨bB HF.o.symm,eK.o⟩
     ·have VA:(s.kind == 6)=false:=by simpa using hk6
      rw [bh (fun h=>hk6 h.1)] at HF;clear hk6;have y:=SL.o w4 H14.o;obtain ⟨s0,s1,s2,s3,s4,s5,s6,s7,s8,s9,s10⟩:=IC y
      go_wp2_with fail
      clear s0 s1 s2 s3 s4 s5 s6 s7 s8 s9 s10 y;refine (kN (ok:=ok) s false _ _ (bC.moves.mv (Mv.of eI.o) KF.o) (by omega)).mono ?_;rintro e w6 ⟨uv,rfl,how,hb6⟩;have kf:=how.rd (ok:=fun _=>True) (fun _ _=>trivial);obtain ⟨up,uc,rfl,O3,O4⟩:=kf.cap;have B2:=aa kf;clear kf how;have qs:=aa (eI.o.trans (hb6.mono eI.o.size));clear hb6;have ez:(dD s false).length<=1000002:=oL s false (by omega);generalize hL:dD s false=L at *;clear hL;go_wp2
      go_loopw [86] (fun i wr=>∃ k:Nat,k<=L.length/\i=.int .i64 k/\(∀ j x,j<k->L[j]?=some x->dh g x=false)/\Below w6.heap.size w6 wr) (fun i _=>L.length - (intOf i).toNat)
      case atStart=>exact ⟨0,cg _,rfl,fun j r hj=>by omega,bj _ _⟩
      case round =>
       obtain ⟨k,hk,rfl,hall,hB⟩:=hrel;have sR:=aa hall;clear hall
       by_cases hlt:k<L.length
       ·obtain ⟨x,hx⟩:=aj L k hlt
        obtain ⟨b,off,us,rfl,_,cX,wb,wj,hcv⟩:=B2.o.elem hx;obtain rfl:us=_:=wj;have q0:=(hB.cell (p:=⟨b,off+k*1+0,none⟩) cX).trans (hcv 0 _ rfl);rw [fp,fg] at q0;have HX:=aa hx;clear hx;have fy:=aa (qs.o.trans (hB.mono qs.o.size));obtain ⟨g0,g1,g2,g3,g4,g5,g6,g7,g8⟩:=bX.cells (sm:=sm) ((fy.o.block bc jt).trans nw.o);have cc:=(fy.o.cell (p:=⟨Bc,0,none⟩) Hh).trans J5.o;clear hcv wb
        go_wp2_with fail
        clear g0 g1 g2 g3 g4 g5 g6 g7 g8 cc;refine (fA (ok:=ok) g a x _ (HG.o.mv (Mv.of fy.o)).F9 HZ.o.vl HZ.o.vz).mono ?_;rintro e w8 ⟨u8,rfl,hv8,hb8⟩;have O8:=aa hv8;obtain ⟨t8,s8,rfl,ht8,hs8⟩:=hv8;obtain ⟨tp8,tc8,rfl,_,_⟩:=ht8.cap;obtain ⟨sp8,sc8,rfl,_,_⟩:=hs8.cap;clear ht8 hs8;have hB8:Below w6.heap.size w6 w8:=hB.trans (hb8.mono hB.size);have Ix:=aa hB8
        have o0:Hid (dh g x=true->mM g v s=17):=aa fun h=>by
         rw [HF.o,aw];rw [nh];exact ⟨x,ct HX.o,h⟩
        have kh:Hid (dh g x=false->∀ j y,j<k+1->L[j]?=some y->dh g y=false):=aa fun h j y hj hy=>by
         by_cases hjk:j=k
         ·subst hjk
          rw [HX.o] at hy;cases hy
          exact h
         ·exact sR.o j y (by omega) hy
        have F2:Hid (dh g x=_):=aa (dh.eq_1 g x)
        have mb:((aM g.F9 x).getD eY).Gf.length<=1000000:=by
         cases hf:aM g.F9 x with
         | none=>exact cg _
         | some y=>exact (HZ.o.vz y (eV hf)).Gf
        generalize (aM g.F9 x).isSome=fd at *;generalize (aM g.F9 x).getD eY=vx at *;have hA:=ae w8 (.cells #[.string vx.name,.int .u64 vx.id,.bool vx.hidden,.bool vx.ro,.slice tp8 vx.tags.length tc8,.slice sp8 vx.Gf.length sc8] 55);have K7:=aa (b9 w8 (.cells #[.string vx.name,.int .u64 vx.id,.bool vx.hidden,.bool vx.ro,.slice tp8 vx.tags.length tc8,.slice sp8 vx.Gf.length sc8] 55));have Nc:=aa (aN.moves.mv (Mv.of hA) O8.o);have pL:=aa (hB8.trans (hA.mono hB8.size));have VB:=aa (aq (b9 w8 (.cells #[.string vx.name,.int .u64 vx.id,.bool vx.hidden,.bool vx.ro,.slice tp8 vx.tags.length tc8,.slice sp8 vx.Gf.length sc8] 55)));clear hA hb8 hB8
        go_wp2_with fail
        generalize DA:World.alloc w8 _=WA at *;clear DA;refine (kU vx _ _ Nc.o (by omega)).mono ?_;rintro e w9 ⟨rfl,hb9⟩;have J1:=aa (pL.o.trans (hb9.mono pL.o.size));have VC:=aa (aN.moves.mv (Mv.of hb9) Nc.o);have LJ:=(hb9.block _ VB.o).trans K7.o
        have bL:=cr LJ
        obtain ⟨n0,n1,n2,n3,n4,n5⟩:=JR bL;clear bL LJ hb9
        by_cases k6:eZ vx=6
        ·have O9:(eZ vx == 6)=true:=by simpa using k6
         have j9:Hid (dh g x=true):=aa (by rw [F2.o,O9];rfl);go_wp2;go_ret;exact ⟨bB (o0.o j9.o).symm,qs.o.trans (J1.o.mono qs.o.size)⟩
        ·have O9:(eZ vx == 6)=false:=by simpa using k6
         go_wp2_with fail
         refine (kU vx _ _ VC.o (by omega)).mono ?_;rintro e w10 ⟨rfl,hb10⟩;have Ax:=aa (J1.o.trans (hb10.mono J1.o.size));clear hb10
         by_cases k5:eZ vx=5
         ·have LH:(eZ vx == 5)=true:=by simpa using k5
          have j9:Hid (dh g x=true):=aa (by rw [F2.o,LH];simp);go_wp2;go_ret;exact ⟨bB (o0.o j9.o).symm,qs.o.trans (Ax.o.mono qs.o.size)⟩
         ·have LH:(eZ vx == 5)=false:=by simpa using k5
          have j9:Hid (dh g x=false):=aa (by rw [F2.o,O9,LH];rfl);go_wp2;go_roundw
          case rel=>exact ⟨k+1,by omega,by go_num,kh.o j9.o,Ax.o⟩
          case measure=>simp [intOf];omega
       ·have fy:=aa (qs.o.trans (hB.mono qs.o.size))
        have HR:Hid (mM g v s=0):=aa (by
         rw [HF.o,bh];intro h;rw [nh] at h;obtain ⟨x,hx,hb⟩:=h;obtain ⟨j,hj⟩:=fc hx;rw [sR.o j x (by have:=(List.getElem?_eq_some_iff.1 hj).1;omega) hj] at hb
         cases hb)
        go_wp2;go_ret;exact ⟨bB HR.o.symm,fy.o⟩
end Go.Proofs.YtjdfihglehfelaaGreatDoor
