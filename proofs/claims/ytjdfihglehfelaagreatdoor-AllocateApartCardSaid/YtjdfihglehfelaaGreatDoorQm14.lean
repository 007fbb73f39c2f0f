/- Lemmas: ModG, ModH. -/
import Derived.Test.YtjdfihglehfelaaGreatDoorQm06
import Derived.Test.YtjdfihglehfelaaGreatDoorQm13
set_option maxRecDepth 100000
set_option maxHeartbeats 32000000
set_option linter.all false
namespace Go.Proofs.YtjdfihglehfelaaGreatDoor
open Go.Proofs.Tryz
open Go.RowKit Go.Maps Go.Shelf
variable {ok:Nat->Prop}{c0 c1 c3 c5 c6 c8 c9 c10 c11 c12 c13 c14 c15 c16 c17 c18 c19 c20 c21 c22 c23 c24 c25 c26 c27 c28 c29 c30 c31 c32 c33 c34 c35 c36 c37 c38 c39 c40 c41 c42 c43 c44 c45 c46 c47 c48 c49 c50 c51 c52 c53 c54 c55 c56 c57 c58 c59 c60 c61 c62 c63 c64 c65 c66 c67 c68 c69 c70 c71 c72 c73 c74 c75 c76 c77 c78 c79 c80 c81 c82 c83 c84 c85 c86 c87 c88 c89 c90 c91 c92 c93 c94 c95 c96 c97 c98 c99 c100 c101 c102 c103 c104 c105 c106 c107:Value}
def dM (vn:ByteArray)(vd:List UInt8)(on:ByteArray):Bool:=pV on ⟨(iK vn.data.toList vd).1.toArray⟩ (iK vn.data.toList vd).2
structure VS (ok:Nat->Prop)(w:World)(bv bs:Nat)(v:ay)(s:aB):Prop where
 bx:∃ u,w.heap[bv]?=some (.cells u.toArray 55 (0,0))/\aN ok w u v
 sx:∃ u,w.heap[bs]?=some (.cells u.toArray 79 (0,0))/\bC ok w u s
theorem qC (Vy:Bool)(v:ay)(s:aB)(k:Nat)(n:Int)(r:aR)(bv bs:Nat)(w:World)(h:VS ok w bv bs v s)(hr:s.Ga[k]?=some r)(hS:AW w)(Tg:v.name.size<=1000000000) :
  Calls prog 191 #[.int .i64 k,if Vy then .func (.func 193) #[] #[] else .func (.func 194) #[] #[],.int .i64 n,.pointer (some bv),.pointer (some bs)] w fun e w'=>e=.returned (.bool (dM v.name (if Vy then bq n else dH n) r.on))/\Below w.heap.size w w':=by
 obtain ⟨⟨u1,hb1,hv1⟩,⟨u2,hb2,hv2⟩⟩:=h;obtain ⟨tv,sv,rfl,_,_⟩:=hv1;obtain ⟨av,kp,rfl,gg,_⟩:=hv2;obtain ⟨ap,ac,rfl,Tp,Tq⟩:=gg.cap;have c0:=cr hb1 0 _ rfl
 have gO:=aq hb2;have Ol:k<s.Ga.length:=(List.getElem?_eq_some_iff.1 hr).1;obtain ⟨b,off,us,rfl,_,cX,ez,eE,hcv⟩:=gg.elem hr;obtain rfl:us=_:=eE;have hq:=hcv 1 _ rfl;have HQ:=aa hq;have cm:=aa hb2;have HS:=aa hS;have hn2:v.name.data.toList.length<=1000000000:=by simpa using Tg
 clear hb1 hb2 gg hr hcv ez hS;cases Vy with
 | true =>
  have HC:=aa (Ea v.name.data.toList n w hn2 HS.o);rw [<- bytes_eta] at HC;simp only [ej];go_enter func191,ntmps191
  go_wp2_with fail
  refine HC.o.mono ?_;rintro e w1 ⟨rfl,hb1⟩;have cU:=aa hb1;have h3:w1.cell? (Tab bs 3)=some (.slice (some (b,off)) s.Ga.length ac):=(hb1.cell (p:=⟨bs,3,none⟩) gO).trans (by simp [World.cell?,cm.o]);have q1:=(hb1.cell (p:=⟨b,off+k*3+1,none⟩) cX).trans HQ.o;clear hb1
  go_wp2_with fail
  refine (mJ _ _ _ _).mono ?_;rintro e w2 ⟨rfl,rfl⟩;go_wp2;go_ret;exact ⟨rfl,cU.o⟩
 | false =>
  have HC:=aa (wC v.name.data.toList n w hn2 HS.o);rw [<- bytes_eta] at HC;simp only [pj,fY];go_enter func191,ntmps191
  go_wp2_with fail
  refine HC.o.mono ?_;rintro e w1 ⟨rfl,hb1⟩;have cU:=aa hb1;have h3:w1.cell? (Tab bs 3)=some (.slice (some (b,off)) s.Ga.length ac):=(hb1.cell (p:=⟨bs,3,none⟩) gO).trans (by simp [World.cell?,cm.o]);have q1:=(hb1.cell (p:=⟨b,off+k*3+1,none⟩) cX).trans HQ.o;clear hb1
  go_wp2_with fail
  refine (mJ _ _ _ _).mono ?_;rintro e w2 ⟨rfl,rfl⟩;go_wp2;go_ret;exact ⟨rfl,cU.o⟩
theorem rR (v:ay)(s:aB)(k:Nat)(n:Int)(r:aR)(bv bs:Nat)(w:World)(h:VS ok w bv bs v s)(hr:s.Ga[k]?=some r)(hS:AW w)(Tg:v.name.size<=1000000000) :
  Calls prog 191 #[.int .i64 k,.func (.func 193) #[] #[],.int .i64 n,.pointer (some bv),.pointer (some bs)] w fun e w'=>e=.returned (.bool (dM v.name (bq n) r.on))/\Below w.heap.size w w' :=
 qC true v s k n r bv bs w h hr hS Tg
theorem kg (v:ay)(s:aB)(k:Nat)(n:Int)(r:aR)(bv bs:Nat)(w:World)(h:VS ok w bv bs v s)(hr:s.Ga[k]?=some r)(hS:AW w)(Tg:v.name.size<=1000000000) :
  Calls prog 191 #[.int .i64 k,.func (.func 194) #[] #[],.int .i64 n,.pointer (some bv),.pointer (some bs)] w fun e w'=>e=.returned (.bool (dM v.name (dH n) r.on))/\Below w.heap.size w w' :=
 qC false v s k n r bv bs w h hr hS Tg
def vU (v:ay)(s:aB):Bool:=(List.range s.Ga.length).all fun k=>dM v.name (bq k) ((s.Ga.map (·.on)).getD k ⟨#[]⟩)
def jS (v:ay)(s:aB):Bool :=
 if s.kind=3\/s.kind=4 then vU v s&&(s.log.toList.isEmpty||dM v.name (dH 1) s.log)
 else if s.kind=5 then dM v.name (dH 3) ((s.Ga.map (·.on)).getD 0 ⟨#[]⟩)&&dM v.name (dH 2) ((s.Ga.map (·.on)).getD 1 ⟨#[]⟩)
 else if s.kind=7 then dM v.name (bq 0) ((s.Ga.map (·.on)).getD 0 ⟨#[]⟩)&&dM v.name (dH 2) ((s.Ga.map (·.on)).getD 1 ⟨#[]⟩)&&dM v.name (dH 3) ((s.Ga.map (·.on)).getD 2 ⟨#[]⟩)
 else true
theorem uD {l:List aR}{k:Nat}{r:aR}(h:l[k]?=some r):(l.map (·.on)).getD k ⟨#[]⟩=r.on:=by simp [h]
theorem VS.below {w w':World}{bv bs:Nat}{v:ay}{s:aB}(h:VS ok w bv bs v s)(hb:Below w.heap.size w w'):VS ok w' bv bs v s:=by
 obtain ⟨⟨u1,hb1,hv1⟩,⟨u2,hb2,hv2⟩⟩:=h;exact ⟨⟨u1,(hb.block _ (aq hb1)).trans hb1,aN.moves.mv (Mv.of hb) hv1⟩,⟨u2,(hb.block _ (aq hb2)).trans hb2,bC.moves.mv (Mv.of hb) hv2⟩⟩
theorem TbE {p:Prop}(h:p:=by
 have:=b9 (w.alloc (.cells (Tah v tp tc sp sc) 55)) (.cells (Tad s ap ac eN eR) 79)
 rw [cW] at this
 exact this):p:=h
theorem Tc4 {p:Prop}(h:p:=by rw [HF.o];simp):p:=h
theorem Bo (v:ay)(s:aB)(u1 u2:List Value)(w:World)(hv:aN ok w u1 v)(hs:bC ok w u2 s)(ha:s.Ga.length<=1000000)(hS:AW w)(Tg:v.name.size<=1000000000)(h5:s.kind=5->2<=s.Ga.length)(h7:s.kind=7->3<=s.Ga.length) :
  Calls prog 145 #[.agg u1.toArray,.agg u2.toArray] w fun e w'=>e=.returned (.bool (jS v s))/\Below w.heap.size w w':=by
 have My:=aa hv;have KF:=aa hs;obtain ⟨tv,sv,rfl,ew,fL⟩:=hv;obtain ⟨tp,tc,rfl,_,_⟩:=ew.cap;obtain ⟨sp,sc,rfl,_,_⟩:=fL.cap;obtain ⟨av,kp,rfl,gg,hst⟩:=hs;obtain ⟨ap,ac,rfl,Tp,Tq⟩:=gg.cap;obtain ⟨eN,eR,rfl,hsc1,hsc2⟩:=hst.cap;clear ew fL gg hst;have Nb:=aa hS;clear hS;have H5:=aa h5;clear h5;have H7:=aa h7;clear h7;have hb2:=(ae w (.cells (Tah v tp tc sp sc) 55)).trans ((ae (w.alloc (.cells (Tah v tp tc sp sc) 55)) (.cells (Tad s ap ac eN eR) 79)).mono (ae w _).size)
 have Yo:VS ok ((w.alloc (.cells (Tah v tp tc sp sc) 55)).alloc (.cells (Tad s ap ac eN eR) 79)) w.heap.size (w.heap.size+1) v s:=by
  refine ⟨⟨_,(cj _ _ _ Tce).trans (b9 w _),aN.moves.mv (Mv.of hb2) My.o⟩,⟨_,?_,bC.moves.mv (Mv.of hb2) KF.o⟩⟩;exact TbE
 have cm:=aa hb2;clear hb2;have Th:=aa Yo;clear Yo;have HF:Hid (jS v s=_):=aa (jS.eq_1 v s)
 have s0:∀ wr:World,wr.heap[w.heap.size+1]?=((w.alloc (.cells (Tah v tp tc sp sc) 55)).alloc (.cells (Tad s ap ac eN eR) 79)).heap[w.heap.size+1]?->wr.heap[w.heap.size]?=((w.alloc (.cells (Tah v tp tc sp sc) 55)).alloc (.cells (Tad s ap ac eN eR) 79)).heap[w.heap.size]?->wr.cell? (Tab (w.heap.size+1) 2)=some (.int .i64 s.kind)/\wr.cell? (Tab (w.heap.size+1) 6)=some (.string s.log)/\wr.cell? w.heap.size=some (.string v.name):=fun wr h1 h0=>by
  have e1:wr.heap[w.heap.size+1]?=some (.cells (Tad s ap ac eN eR) 79 (0,0)):=by
   rw [h1];exact TbE
  have e0:wr.heap[w.heap.size]?=some (.cells (Tah v tp tc sp sc) 55 (0,0)):=h0.trans ((cj _ _ _ Tce).trans (b9 w _));exact ⟨cr e1 _ _ rfl,cr e1 _ _ rfl,cr e0 _ _ rfl⟩
 have HS0:=aa s0;clear s0
 by_cases k34:s.kind=3\/s.kind=4
 ·rw [aw k34] at HF
  have hk:(s.kind == 3)=true\/((s.kind == 3)=false/\(s.kind == 4)=true):=by
   rcases k34 with h | h
   ·exact .inl TcG
   ·exact .inr ⟨by rw [h];rfl,TcG⟩
  clear k34;rcases hk with k3 | ⟨k3,k4⟩
  all_goals
   go_enter func145,ntmps145;have s3:((w.alloc (.cells (Tah v tp tc sp sc) 55)).alloc (.cells (Tad s ap ac eN eR) 79)).cell? (Tab (w.heap.size+1) 3)=some (.slice ap s.Ga.length ac):=aD Tce rfl;go_wp2;generalize hW2:World.alloc (World.alloc w _) _=W2 at *;clear hW2 s3
   go_loopw [18] (fun i wr=>∃ k:Nat,k<=s.Ga.length/\i=.int .i64 k/\(∀ j,j<k->dM v.name (bq j) ((s.Ga.map (·.on)).getD j ⟨#[]⟩)=true)/\VS ok wr w.heap.size (w.heap.size+1) v s/\Below w.heap.size w wr/\wr.heap[w.heap.size+1]?=W2.heap[w.heap.size+1]?/\wr.heap[w.heap.size]?=W2.heap[w.heap.size]?/\w.heap.size+1<wr.heap.size) (fun i _=>s.Ga.length - (intOf i).toNat)
   case atStart=>exact ⟨0,cg _,rfl,fun j hj=>by omega,Th.o,cm.o,rfl,rfl,by obtain ⟨⟨_,_,_⟩,⟨_,h,_⟩⟩:=Th.o;exact aq h⟩
   case round =>
    obtain ⟨k,hk,rfl,hall,eE,hB,hw1,hw0,mA⟩:=hrel;have cE:=aa hall;clear hall;have Ts:=aa eE;clear eE;have HW1:=aa hw1;clear hw1;have HW0:=aa hw0;clear hw0
    by_cases hlt:k<s.Ga.length
    ·obtain ⟨r,hr⟩:=aj s.Ga k hlt
     have Vz:=aa (uD hr);have HR:=aa hr;clear hr
     go_wp2_with fail
     refine (rR (ok:=ok) v s k k r _ _ _ Ts.o HR.o (Nb.o.below hB) Tg).mono ?_;rintro e w3 ⟨rfl,hb3⟩;have cJ:=aa (hB.trans (hb3.mono hB.size));have Rl:=aa (Ts.o.below hb3);have HW31:=aa ((hb3.block _ mA).trans HW1.o);have HW30:=aa ((hb3.block _ Tcd).trans HW0.o);have Lp:Hid (w.heap.size+1<w3.heap.size):=aa (cC mA hb3.size);clear hb3
     have o0:Hid (dM v.name (bq k) r.on=false->jS v s=false):=aa fun h=>by
      have:vU v s=false:=by
       unfold vU;rw [cy];exact ⟨k,List.mem_range.2 hlt,by rw [Vz.o,h];simp⟩
      rw [HF.o,this];rfl
     have kh:Hid (dM v.name (bq k) r.on=true->∀ j,j<k+1->dM v.name (bq j) ((s.Ga.map (·.on)).getD j ⟨#[]⟩)=true):=aa fun h j hj=>by
      by_cases hjk:j=k
      ·subst hjk
       rw [Vz.o];exact h
      ·exact cE.o j Tcd
     generalize hqq:dM v.name (bq k) r.on=qq at *;clear hqq;cases qq with
     | true =>
      go_wp2;go_roundw
      case rel=>exact ⟨k+1,Tcd,Tch,kh.o TcJ,Rl.o,cJ.o,HW31.o,HW30.o,Lp.o⟩
      case measure=>simp [intOf];omega
     | false =>
      go_wp2;go_ret;exact ⟨ah (o0.o TcJ).symm,cJ.o⟩
    ·have HL:Hid (vU v s=true):=aa (by
      unfold vU;rw [eL]
      exact fun j hj=>cE.o j TcP)
     obtain ⟨_,l6,n0⟩:=HS0.o wr HW1.o HW0.o;cases hle:s.log.toList.isEmpty with
     | true =>
      have HR:Hid (jS v s=true):=aa (by rw [HF.o,HL.o,hle];simp);go_wp2;go_ret;exact ⟨ah HR.o.symm,hB⟩
     | false =>
      have HR:Hid (jS v s=dM v.name (dH 1) s.log):=aa (by rw [HF.o,HL.o,hle];simp);have HC:=aa (fun W hW=>wC v.name.data.toList 1 W (by simpa using Tg) (Nb.o.below hW));rw [<- bytes_eta] at HC
      go_wp2_with fail
      refine (HC.o _ hB).mono ?_;rintro e w3 ⟨rfl,hb3⟩;have cJ:=aa (hB.trans (hb3.mono hB.size));have l6':=(hb3.cell (p:=⟨w.heap.size+1,6,none⟩) mA).trans l6;clear hb3 l6
      go_wp2_with fail
      refine (mJ _ _ _ _).mono ?_;rintro e w4 ⟨rfl,rfl⟩;go_wp2;go_ret;exact ⟨ah Tcl,cJ.o⟩
 ·rw [bh k34] at HF
  have k3:(s.kind == 3)=false:=by simp;omega
  have k4:(s.kind == 4)=false:=by simp;omega
  by_cases k5:s.kind=5
  ·rw [aw k5] at HF
   have hl:=H5.o k5;have LH:(s.kind == 5)=true:=by simpa using k5
   obtain ⟨r0,hr0⟩:=aj s.Ga 0 Tcd;obtain ⟨r1,hr1⟩:=aj s.Ga 1 Tcd;rw [uD hr0,uD hr1] at HF;clear k5 k34;go_enter func145,ntmps145
   go_wp2_with fail
   generalize hW2:World.alloc (World.alloc w _) _=W2 at *;clear hW2;refine (kg (ok:=ok) v s 0 3 r0 _ _ _ Th.o hr0 (Nb.o.below cm.o) Tg).mono ?_;rintro e w3 ⟨rfl,hb3⟩;have Ts:=aa (Th.o.below hb3);have cJ:=aa (cm.o.trans (hb3.mono cm.o.size));clear hb3;generalize hq0:dM v.name (dH 3) r0.on=q0 at *;clear hq0;cases q0 with
   | false =>
    go_wp2;go_ret;exact ⟨ah Tc4,cJ.o⟩
   | true =>
    go_wp2_with fail
    refine (kg (ok:=ok) v s 1 2 r1 _ _ _ Ts.o hr1 (Nb.o.below cJ.o) Tg).mono ?_;rintro e w4 ⟨rfl,hb4⟩;have O5:=aa (Ts.o.below hb4);have eI:=aa (cJ.o.trans (hb4.mono cJ.o.size));clear hb4;generalize hq1:dM v.name (dH 2) r1.on=q1 at *;clear hq1;go_wp2;go_ret;exact ⟨ah Tc4,eI.o⟩
  ·rw [bh k5] at HF
   have LH:(s.kind == 5)=false:=by simpa using k5
   by_cases k7:s.kind=7
   ·rw [aw k7] at HF
    have hl:=H7.o k7;have k7b:(s.kind == 7)=true:=by simpa using k7
    obtain ⟨r0,hr0⟩:=aj s.Ga 0 Tcd;obtain ⟨r1,hr1⟩:=aj s.Ga 1 Tcd;obtain ⟨r2,hr2⟩:=aj s.Ga 2 Tcd;rw [uD hr0,uD hr1,uD hr2] at HF;clear k7 k34 k5;go_enter func145,ntmps145
    go_wp2_with fail
    generalize hW2:World.alloc (World.alloc w _) _=W2 at *;clear hW2;refine (rR (ok:=ok) v s 0 0 r0 _ _ _ Th.o hr0 (Nb.o.below cm.o) Tg).mono ?_;rintro e w3 ⟨rfl,hb3⟩;have Ts:=aa (Th.o.below hb3);have cJ:=aa (cm.o.trans (hb3.mono cm.o.size));clear hb3;generalize hq0:dM v.name (bq 0) r0.on=q0 at *;clear hq0;cases q0 with
    | false =>
     go_wp2;go_ret;exact ⟨ah Tc4,cJ.o⟩
    | true =>
     go_wp2_with fail
     refine (kg (ok:=ok) v s 1 2 r1 _ _ _ Ts.o hr1 (Nb.o.below cJ.o) Tg).mono ?_;rintro e w4 ⟨rfl,hb4⟩;have O5:=aa (Ts.o.below hb4);have eI:=aa (cJ.o.trans (hb4.mono cJ.o.size));clear hb4;generalize hq1:dM v.name (dH 2) r1.on=q1 at *;clear hq1;cases q1 with
     | false =>
      go_wp2;go_ret;exact ⟨ah Tc4,eI.o⟩
     | true =>
      go_wp2_with fail
      refine (kg (ok:=ok) v s 2 3 r2 _ _ _ O5.o hr2 (Nb.o.below eI.o) Tg).mono ?_;rintro e w5 ⟨rfl,hb5⟩;have Rl:=aa (O5.o.below hb5);have eK:=aa (eI.o.trans (hb5.mono eI.o.size));clear hb5;generalize hq2:dM v.name (dH 3) r2.on=q2 at *;clear hq2;go_wp2;go_ret;exact ⟨ah Tc4,eK.o⟩
   ·rw [bh k7] at HF
    have k7b:(s.kind == 7)=false:=by simpa using k7
    clear k7 k34 k5;go_enter func145,ntmps145;go_wp2;go_ret;exact ⟨ah (by rw [HF.o]),cm.o⟩
theorem pI (Q:Exit->Act->World->Prop){c4:Value}(w:World)(g:af)(a:bN)(bc sm Bx:Nat)(nm:ByteArray)(Bc:Nat)(Hh:Bc<w.heap.size)(hcc:w.cell? Bc=some (.pointer (some bc)))(hx:w.heap[bc]?=some (.cells #[.string g.name,.int .u64 g.id,.int .i64 g.seq,.int .i64 g.Gd,.int .i64 g.next,.slice a.tp g.tags.length a.tc,.slice a.dp g.Gb.length a.dc,.slice a.vp g.F9.length a.vc,.slice a.hp g.history.length a.hc,.map (some sm)] 141 (0,0)))(hn:w.cell? (Tab Bx 1)=some (.string nm))(sk:Bx<w.heap.size)
  (hg:dN ok w g a) (hz:JT g) (x:az) (Oy:Bool) (Kn:(bH g.Gb nm).getD gT=x) (N3:(bH g.Gb nm).isSome=Oy)
  (HK:Hid (∀ (tp:Option Addr) (tc:Nat) (b:Nat) (W':World),Below w.heap.size w W'->w.heap.size<=b->W'.heap[b]?=some (.cells (Tai x tp tc) 47 (0,0))->aO (fun k=>(ok k/\k<w.heap.size)\/(w.heap.size<=k/\k≠b)) W' [.string x.name,.int .u64 x.id,.int .i64 x.first,.int .i64 x.Gc,.bool x.closed,.bool x.missing,.slice tp x.tags.length tc] x->Q .normal ⟨#[c0,c1,.pointer (some Bc),c3,c4,c5,c6,.pointer (some Bx),.pointer (some b),.bool Oy,c10,c11,c12,c13,c14,c15,c16,c17,c18,c19,c20,c21,c22,c23,c24,c25,c26,.tuple #[.agg (Tai x tp tc),.bool Oy],.pointer (some bc),.pointer (some bc),.pointer (some bc),.agg (Tae g a),.pointer (some (Tab Bx 1)),.string nm,.tuple #[.agg (Tai x tp tc),.bool Oy],.agg (Tai x tp tc),.bool Oy,c37,c38,c39,c40,c41,c42,c43,c44,c45,c46,c47,c48,c49,c50,c51,c52,c53,c54,c55,c56,c57,c58,c59,c60,c61,c62,c63,c64,c65,c66,c67,c68,c69,c70,c71,c72,c73,c74,c75,c76,c77,c78,c79,c80,c81,c82,c83,c84,c85,c86,c87,c88,c89,c90,c91,c92,c93,c94,c95,c96,c97,c98,c99,c100,c101,c102,c103,c104,c105,c106,c107],[]⟩ W'))
  (hQ:∀ c (a:Act) (d:Tmp) (v:Value) w,Q (.panic c) (a.put (some d) v) w->Q (.panic c) a w) :
  (Ai Tryz.f142 6).wp prog Q ⟨#[c0,c1,.pointer (some Bc),c3,c4,c5,c6,.pointer (some Bx),c8,c9,c10,c11,c12,c13,c14,c15,c16,c17,c18,c19,c20,c21,c22,c23,c24,c25,c26,c27,c28,c29,c30,c31,c32,c33,c34,c35,c36,c37,c38,c39,c40,c41,c42,c43,c44,c45,c46,c47,c48,c49,c50,c51,c52,c53,c54,c55,c56,c57,c58,c59,c60,c61,c62,c63,c64,c65,c66,c67,c68,c69,c70,c71,c72,c73,c74,c75,c76,c77,c78,c79,c80,c81,c82,c83,c84,c85,c86,c87,c88,c89,c90,c91,c92,c93,c94,c95,c96,c97,c98,c99,c100,c101,c102,c103,c104,c105,c106,c107],[]⟩ w:=by
 conv=>arg 2;whnf
 have vh:=aq hx
 have hS:∀ w':World,Below w.heap.size w w'->(w'.cell? (Tab Bx 1)=some (.string nm)/\w'.cell? bc=some (.string g.name)/\w'.cell? (Tab bc 1)=some (.int .u64 g.id)/\w'.cell? (Tab bc 2)=some (.int .i64 g.seq)/\w'.cell? (Tab bc 3)=some (.int .i64 g.Gd)/\w'.cell? (Tab bc 4)=some (.int .i64 g.next)/\w'.cell? (Tab bc 5)=some (.slice a.tp g.tags.length a.tc)/\w'.cell? (Tab bc 6)=some (.slice a.dp g.Gb.length a.dc)/\w'.cell? (Tab bc 7)=some (.slice a.vp g.F9.length a.vc)/\w'.cell? (Tab bc 8)=some (.slice a.hp g.history.length a.hc)/\w'.cell? Bc=some (.pointer (some bc))):=fun w' e=>by
  have h2:=(e.block bc vh).trans hx;exact ⟨(e.cell (p:=⟨Bx,1,none⟩) sk).trans hn,cr h2 _ _ rfl,cr h2 _ _ rfl,cr h2 _ _ rfl,cr h2 _ _ rfl,cr h2 _ _ rfl,cr h2 _ _ rfl,cr h2 _ _ rfl,cr h2 _ _ rfl,cr h2 _ _ rfl,(e.cell (p:=Bc) Hh).trans hcc⟩
 have HS:=aa hS;clear hS;have Rj:Hid (∀ W:World,Below w.heap.size w W->dN (fun k=>ok k/\k<w.heap.size) W g a):=aa fun W hb=>hg.mv ⟨hb.size,fun k hk ho=>⟨⟨ho,hk⟩,hb.block k hk⟩⟩;have HZ:=aa hz;clear hz hg hx hn hcc
 have hC:∀ W:World,Below w.heap.size w W->Calls prog 50 #[.agg (Tae g a),.string nm] W fun e w'=>∃ (tp:Option Addr) (tc:Nat),e=.returned (.tuple #[.agg (Tai x tp tc),.bool Oy])/\aO (fun k=>(ok k/\k<w.heap.size)\/W.heap.size<=k) w' [.string x.name,.int .u64 x.id,.int .i64 x.first,.int .i64 x.Gc,.bool x.closed,.bool x.missing,.slice tp x.tags.length tc] x/\Below W.heap.size W w':=fun W hb=>by
  exact Tbb
 have HC:=aa hC;clear hC Kn N3;refine aL (fun w'=>w'.cell? (Tab Bx 1)=some (.string nm)/\w'.cell? bc=some (.string g.name)/\w'.cell? (Tab bc 1)=some (.int .u64 g.id)/\w'.cell? (Tab bc 2)=some (.int .i64 g.seq)/\w'.cell? (Tab bc 3)=some (.int .i64 g.Gd)/\w'.cell? (Tab bc 4)=some (.int .i64 g.next)/\w'.cell? (Tab bc 5)=some (.slice a.tp g.tags.length a.tc)/\w'.cell? (Tab bc 6)=some (.slice a.dp g.Gb.length a.dc)/\w'.cell? (Tab bc 7)=some (.slice a.vp g.F9.length a.vc)/\w'.cell? (Tab bc 8)=some (.slice a.hp g.history.length a.hc)/\w'.cell? Bc=some (.pointer (some bc))) 13 [] Tcf (HS.o _ (bj _ _).drew) (fun hHeld=>?_);exact TaU
theorem TbM {p:Prop}(h:p:=by
 rw [bw _ _ _ _ hkb,bw _ _ _ _ hkb,bw _ _ _ _ hkb,bw _ _ _ _ hkb,bw _ _ _ _ hkb,bw _ _ _ _ hkb]):p:=h
theorem oG (Q:Exit->Act->World->Prop){c7:Value}(w:World)(g:af)(a:bN)(bc sm Bx:Nat)(nm:ByteArray)(Bc:Nat)(Hh:Bc<w.heap.size)(hcc:w.cell? Bc=some (.pointer (some bc)))(hx:w.heap[bc]?=some (.cells #[.string g.name,.int .u64 g.id,.int .i64 g.seq,.int .i64 g.Gd,.int .i64 g.next,.slice a.tp g.tags.length a.tc,.slice a.dp g.Gb.length a.dc,.slice a.vp g.F9.length a.vc,.slice a.hp g.history.length a.hc,.map (some sm)] 141 (0,0)))(hn:w.cell? (Tab Bx 7)=some (.string nm))(sk:Bx<w.heap.size)
  (hg:dN ok w g a) (hz:JT g) (x:ay) (Oy:Bool) (Kn:(aM g.F9 nm).getD eY=x) (N3:(aM g.F9 nm).isSome=Oy)
  (HK:Hid (∀ (tp:Option Addr) (tc:Nat) (sp:Option Addr) (sc:Nat) (b:Nat) (W':World),Below w.heap.size w W'->w.heap.size<=b->W'.heap[b]?=some (.cells (Tah x tp tc sp sc) 55 (0,0))->aN (fun k=>(ok k/\k<w.heap.size)\/(w.heap.size<=k/\k≠b)) W' [.string x.name,.int .u64 x.id,.bool x.hidden,.bool x.ro,.slice tp x.tags.length tc,.slice sp x.Gf.length sc] x->Q .normal ⟨#[c0,c1,.pointer (some Bc),c3,.pointer (some Bx),c5,c6,c7,c8,c9,.pointer (some b),.bool Oy,c12,c13,c14,c15,c16,c17,c18,c19,c20,c21,c22,c23,c24,c25,c26,c27,c28,c29,c30,c31,c32,c33,c34,c35,c36,c37,c38,c39,c40,c41,c42,c43,c44,c45,c46,c47,c48,c49,c50,c51,c52,c53,c54,c55,c56,c57,c58,c59,c60,c61,c62,c63,c64,c65,c66,c67,c68,c69,.tuple #[.agg (Tah x tp tc sp sc),.bool Oy],.pointer (some bc),.pointer (some bc),.pointer (some bc),.agg (Tae g a),.pointer (some (Tab Bx 7)),.string nm,.tuple #[.agg (Tah x tp tc sp sc),.bool Oy],.agg (Tah x tp tc sp sc),.bool Oy,c80,c81,c82,c83,c84,c85,c86,c87,c88,c89,c90,c91,c92,c93,c94,c95,c96,c97,c98,c99,c100,c101,c102,c103,c104,c105,c106,c107],[]⟩ W'))
  (hQ:∀ c (a:Act) (d:Tmp) (v:Value) w,Q (.panic c) (a.put (some d) v) w->Q (.panic c) a w) :
  (Ai Tryz.f142 13).wp prog Q ⟨#[c0,c1,.pointer (some Bc),c3,.pointer (some Bx),c5,c6,c7,c8,c9,c10,c11,c12,c13,c14,c15,c16,c17,c18,c19,c20,c21,c22,c23,c24,c25,c26,c27,c28,c29,c30,c31,c32,c33,c34,c35,c36,c37,c38,c39,c40,c41,c42,c43,c44,c45,c46,c47,c48,c49,c50,c51,c52,c53,c54,c55,c56,c57,c58,c59,c60,c61,c62,c63,c64,c65,c66,c67,c68,c69,c70,c71,c72,c73,c74,c75,c76,c77,c78,c79,c80,c81,c82,c83,c84,c85,c86,c87,c88,c89,c90,c91,c92,c93,c94,c95,c96,c97,c98,c99,c100,c101,c102,c103,c104,c105,c106,c107],[]⟩ w:=by
 conv=>arg 2;whnf
 have vh:=aq hx
 have hS:∀ w':World,Below w.heap.size w w'->(w'.cell? (Tab Bx 7)=some (.string nm)/\w'.cell? bc=some (.string g.name)/\w'.cell? (Tab bc 1)=some (.int .u64 g.id)/\w'.cell? (Tab bc 2)=some (.int .i64 g.seq)/\w'.cell? (Tab bc 3)=some (.int .i64 g.Gd)/\w'.cell? (Tab bc 4)=some (.int .i64 g.next)/\w'.cell? (Tab bc 5)=some (.slice a.tp g.tags.length a.tc)/\w'.cell? (Tab bc 6)=some (.slice a.dp g.Gb.length a.dc)/\w'.cell? (Tab bc 7)=some (.slice a.vp g.F9.length a.vc)/\w'.cell? (Tab bc 8)=some (.slice a.hp g.history.length a.hc)/\w'.cell? Bc=some (.pointer (some bc))):=fun w' e=>by
  have h2:=(e.block bc vh).trans hx;exact ⟨(e.cell (p:=⟨Bx,7,none⟩) sk).trans hn,cr h2 _ _ rfl,cr h2 _ _ rfl,cr h2 _ _ rfl,cr h2 _ _ rfl,cr h2 _ _ rfl,cr h2 _ _ rfl,cr h2 _ _ rfl,cr h2 _ _ rfl,cr h2 _ _ rfl,(e.cell (p:=Bc) Hh).trans hcc⟩
 have HS:=aa hS;clear hS;have Rj:Hid (∀ W:World,Below w.heap.size w W->dN (fun k=>ok k/\k<w.heap.size) W g a):=aa fun W hb=>hg.mv ⟨hb.size,fun k hk ho=>⟨⟨ho,hk⟩,hb.block k hk⟩⟩;have HZ:=aa hz;clear hz hg hx hn hcc
 have hC:∀ W:World,Below w.heap.size w W->Calls prog 95 #[.agg (Tae g a),.string nm] W fun e w'=>∃ (tp:Option Addr) (tc:Nat) (sp:Option Addr) (sc:Nat),e=.returned (.tuple #[.agg (Tah x tp tc sp sc),.bool Oy])/\aN (fun k=>(ok k/\k<w.heap.size)\/W.heap.size<=k) w' [.string x.name,.int .u64 x.id,.bool x.hidden,.bool x.ro,.slice tp x.tags.length tc,.slice sp x.Gf.length sc] x/\Below W.heap.size W w':=fun W hb=>by
  refine (fA g a nm W (ok:=fun k=>ok k/\k<w.heap.size) (dN.F9 (Rj.o W hb)) HZ.o.vl HZ.o.vz).mono ?_;rintro e w' ⟨u,rfl,hv,hb'⟩;rw [Kn] at hv;rw [N3];obtain ⟨t,u,rfl,ht,hu⟩:=hv;obtain ⟨tp,tc,rfl,_,_⟩:=ht.cap;obtain ⟨sp,sc,rfl,_,_⟩:=hu.cap;have sA:aN _ w' _ _:=⟨_,_,rfl,ht,hu⟩;exact ⟨_,_,_,_,rfl,sA,hb'⟩
 have HC:=aa hC;clear hC Kn N3;refine aL (fun w'=>w'.cell? (Tab Bx 7)=some (.string nm)/\w'.cell? bc=some (.string g.name)/\w'.cell? (Tab bc 1)=some (.int .u64 g.id)/\w'.cell? (Tab bc 2)=some (.int .i64 g.seq)/\w'.cell? (Tab bc 3)=some (.int .i64 g.Gd)/\w'.cell? (Tab bc 4)=some (.int .i64 g.next)/\w'.cell? (Tab bc 5)=some (.slice a.tp g.tags.length a.tc)/\w'.cell? (Tab bc 6)=some (.slice a.dp g.Gb.length a.dc)/\w'.cell? (Tab bc 7)=some (.slice a.vp g.F9.length a.vc)/\w'.cell? (Tab bc 8)=some (.slice a.hp g.history.length a.hc)/\w'.cell? Bc=some (.pointer (some bc))) 13 [] Tcf (HS.o _ (bj _ _).drew) (fun hHeld=>?_);refine cH hQ 0 hHeld ?_;try simp only [ak];refine cH hQ 1 hHeld ?_;try simp only [ak];refine cH hQ 2 hHeld ?_;try simp only [ak];refine cH hQ 3 hHeld ?_;try simp only [ak];refine cH hQ 4 hHeld ?_;try simp only [ak];refine cH hQ 5 hHeld ?_;try simp only [ak];refine mh (i:=6) (j:=10) rfl rfl rfl rfl Tcf (fun K hK=>?_) (fun K hK=>?_)
 ·go_simp
  refine (HC.o _ (bj _ _).drew).mono ?_;rintro e w1 ⟨tp,tc,sp,sc,rfl,hv1,hb1⟩;have hb1':Below w.heap.size w w1:=⟨hb1.os,hb1.tape,hb1.output,hb1.size,hb1.block⟩;refine hK.o _ _ (HS.o _ hb1') ?_;clear hK K hHeld;have hHeld:=HS.o _ hb1';have J4:=aa hv1;clear hv1 hb1;have cU:=aa hb1';clear hb1';refine cH hQ 7 hHeld ?_;try simp only [ak];refine cH hQ 8 hHeld ?_;try simp only [ak];refine cH hQ 9 hHeld ?_;try simp only [ak];refine lR 10 fun K hK=>?_;go_simp;have hb2:Below w.heap.size w (w1.alloc (.cells Tap 55)):=cU.o.alloc cU.o.size _;refine hK.o _ _ (HS.o _ hb2) ?_;clear hK K hHeld;have gh:=b9 w1 (.cells Tap 55);have gO:w1.heap.size<(w1.alloc (.cells Tap 55)).heap.size:=by simp
  have hv2:aN (fun k=>(ok k/\k<w.heap.size)\/(w.heap.size<=k/\k<w1.heap.size)) (w1.alloc (.cells Tap 55)) [.string x.name,.int .u64 x.id,.bool x.hidden,.bool x.ro,.slice tp x.tags.length tc,.slice sp x.Gf.length sc] x:=aN.moves.mv ⟨Tce,fun k hk ho=>⟨ho.imp id (fun q=>⟨q,hk⟩),cj _ _ _ hk⟩⟩ J4.o;have mA:=cU.o.size;generalize hW2:World.alloc w1 _=W2 at *;generalize hb0:w1.heap.size=b0 at *;clear hW2 hb0 J4 cU;have Sq:=aa hv2;clear hv2;have cm:=aa hb2;clear hb2;obtain ⟨z0,z1,z2,z3,z4,z5⟩:=XP (cr gh)
  have zf:=sr gh
  have F2:=aa (block_setCell (i:=5) (.slice sp x.Gf.length sc) (block_setCell (i:=4) (.slice tp x.tags.length tc) (block_setCell (i:=3) (.bool x.ro) (block_setCell (i:=2) (.bool x.hidden) (block_setCell (i:=1) (.int .u64 x.id) (block_setCell (w:=W2) (i:=0) (.string x.name) gh))))));have my:Hid (∀ (V:World) (o:Nat) (z:Value),Below w.heap.size w V->Below w.heap.size w (V.setCell ⟨b0,o,none⟩ z)):=aa fun V o z q=>q.setCell (p:=⟨b0,o,none⟩) mA z;clear gh;refine lR 11 fun K hK=>?_;go_simp;have hb3:Below w.heap.size w (World.setCell (World.setCell (World.setCell (World.setCell (World.setCell (World.setCell W2 ⟨b0,0,none⟩ (.string x.name)) ⟨b0,1,none⟩ (.int .u64 x.id)) ⟨b0,2,none⟩ (.bool x.hidden)) ⟨b0,3,none⟩ (.bool x.ro)) ⟨b0,4,none⟩ (.slice tp x.tags.length tc)) ⟨b0,5,none⟩ (.slice sp x.Gf.length sc)):=(my.o _ _ _ (my.o _ _ _ (my.o _ _ _ (my.o _ _ _ (my.o _ _ _ (my.o _ _ _ cm.o))))));refine hK.o _ _ (HS.o _ hb3) ?_;clear hK K;refine lR 12 fun K hK=>?_;go_simp;refine hK.o _ _ (HS.o _ hb3) ?_;clear hK K;refine aP Tcf rfl ?_;simp only [cQ,km,cL];refine HK.o _ _ _ _ b0 _ hb3 mA F2.o (aN.moves.mv ⟨Tcq,fun k hk ho=>⟨?_,?_⟩⟩ Sq.o)
  ·exact Tcc
  ·have hkb:k≠b0:=by rcases ho with q | q <;> omega
   exact TbM
 ·go_simp
  have hb2:Below w.heap.size w (w.drew.alloc (.cells Tap 55)):=((bj _ _).drew).alloc (bk _) _;refine hK.o _ _ (HS.o _ hb2) ?_;clear hK K hHeld;have hHeld:=HS.o _ hb2;refine lR 6 fun K hK=>?_;go_simp;refine (HC.o _ hb2).mono ?_;rintro e w1 ⟨tp,tc,sp,sc,rfl,hv1,hb1⟩;have hb1':Below w.heap.size w w1:=hb2.trans (hb1.mono hb2.size);refine hK.o _ _ (HS.o _ hb1') ?_;clear hK K hHeld;have hHeld:=HS.o _ hb1';have gh:=(hb1.block _ Tce).trans (b9 w.drew (.cells Tap 55));have hv2:aN (fun k=>(ok k/\k<w.heap.size)\/(w.heap.size<=k/\w.heap.size<k)) w1 [.string x.name,.int .u64 x.id,.bool x.hidden,.bool x.ro,.slice tp x.tags.length tc,.slice sp x.Gf.length sc] x:=aN.moves.mv ⟨bk _,fun k hk ho=>⟨ho.imp id (fun q=>by simp at q;omega),rfl⟩⟩ hv1;have mA:w.heap.size<=w.heap.size:=bk _;have gh:w1.heap[w.heap.size]?=some (.cells Tap 55 (0,0)):=gh;clear hb2;have hb2:=hb1';clear hv1 hb1 hb1';generalize w1=W2 at *;refine cH hQ 7 hHeld ?_;try simp only [ak];refine cH hQ 8 hHeld ?_;try simp only [ak];refine cH hQ 9 hHeld ?_;try simp only [ak];have Sq:=aa hv2;clear hv2;have cm:=aa hb2;clear hb2;obtain ⟨z0,z1,z2,z3,z4,z5⟩:=XP (cr gh)
  have zf:=sr gh
  have F2:=aa (block_setCell (i:=5) (.slice sp x.Gf.length sc) (block_setCell (i:=4) (.slice tp x.tags.length tc) (block_setCell (i:=3) (.bool x.ro) (block_setCell (i:=2) (.bool x.hidden) (block_setCell (i:=1) (.int .u64 x.id) (block_setCell (w:=W2) (i:=0) (.string x.name) gh))))));have my:Hid (∀ (V:World) (o:Nat) (z:Value),Below w.heap.size w V->Below w.heap.size w (V.setCell ⟨w.heap.size,o,none⟩ z)):=aa fun V o z q=>q.setCell (p:=⟨w.heap.size,o,none⟩) mA z;clear gh;refine lR 11 fun K hK=>?_;go_simp;have hb3:Below w.heap.size w (World.setCell (World.setCell (World.setCell (World.setCell (World.setCell (World.setCell W2 ⟨w.heap.size,0,none⟩ (.string x.name)) ⟨w.heap.size,1,none⟩ (.int .u64 x.id)) ⟨w.heap.size,2,none⟩ (.bool x.hidden)) ⟨w.heap.size,3,none⟩ (.bool x.ro)) ⟨w.heap.size,4,none⟩ (.slice tp x.tags.length tc)) ⟨w.heap.size,5,none⟩ (.slice sp x.Gf.length sc)):=(my.o _ _ _ (my.o _ _ _ (my.o _ _ _ (my.o _ _ _ (my.o _ _ _ (my.o _ _ _ cm.o))))));refine hK.o _ _ (HS.o _ hb3) ?_;clear hK K;refine lR 12 fun K hK=>?_;go_simp;refine hK.o _ _ (HS.o _ hb3) ?_;clear hK K;refine aP Tcf rfl ?_;simp only [cQ,km,cL];refine HK.o _ _ _ _ w.heap.size _ hb3 mA F2.o (aN.moves.mv ⟨Tcq,fun k hk ho=>⟨?_,?_⟩⟩ Sq.o)
  ·exact Tcc
  ·have hkb:k≠w.heap.size:=by rcases ho with q | q <;> omega
   exact TbM
end Go.Proofs.YtjdfihglehfelaaGreatDoor
