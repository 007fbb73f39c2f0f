/- Lemmas: ModZe, NeeB, NeeC. -/
import Derived.Test.YtaagglbgohjldaaGreatDoorQv21
set_option maxRecDepth 100000
set_option maxHeartbeats 32000000
set_option linter.all false
namespace Go.Proofs.YtaagglbgohjldaaGreatDoor
open Go.Proofs.Tryz
open Go.RowKit Go.Maps Go.Shelf
variable {l:List (ByteArray × Int)}{k B bm:Nat}{r:ByteArray × Int}{ok:Nat->Prop}{w w':World}{v:ay}{F9:List ay}{A:List (ay × Value)}
def aZ (g:af):List (ByteArray × Int):=[dZ g,dw g,dJ g,iP g,mY g,qG g,pE g,rY g]
theorem Ez (g:af):mchk g=oW (aZ g):=rfl
theorem gW (h:l[k]?=some r):oW (l.drop k)=if r.2=0 then oW (l.drop (k+1)) else r:=by
 rw [drop_at h];rfl
theorem iX (h:∀ x∈l.take k,x.2=0)(hr:l[k]?=some r)(h0:r.2=0):∀ x∈l.take (k+1),x.2=0:=fun x hx=>by
 rw [take_snoc' l k r hr] at hx;rcases List.mem_append.1 hx with hx | hx
 ·exact h x hx
 obtain rfl:=List.mem_singleton.1 hx;exact h0
theorem TbG {p:Prop}(h:p:=by
 ·have qu:(x1 != 0)=true:=by simpa using hx
  have HX:=aa hx;clear hx;go_wp2;go_ret2;exact ⟨by rw [qT.o,bh HX.o];rfl,B3.o⟩):p:=h
theorem TcM {p:Prop}(h:p:=by simp [aZ]):p:=h
theorem Tdb {p:Prop}(h:p:=by rw [qT.o,aw HX.o]):p:=h
theorem Bz (g:af)(a:bN)(w:World)(hg:dN ok w g a)(hi:NL g)(hS:AW w) :
  Calls prog 57 #[.agg (Tad g a)] w (Aw (mchk g) w):=by
 have HG:=aa hg;clear hg;have HI:=aa hi;clear hi;have MD:=aa hS;clear hS;have cU:=aa (ae w (.cells (Tad g a) 31));have CN:=aa (b9 w (.cells (Tad g a) 31));go_enter func57,ntmps57
 go_upto_region 1 with (fail);generalize hW1:World.alloc w _=W1 at *;generalize Ms:w.heap.size=Bg at *;clear hW1;have hS:∀ w':World,Below W1.heap.size W1 w'->(w'.cell? Bg=some (.string g.name)/\w'.cell? (Tac Bg 1)=some (.int .u64 g.id)/\w'.cell? (Tac Bg 2)=some (.int .i64 g.seq)/\w'.cell? (Tac Bg 3)=some (.int .i64 g.Gd)/\w'.cell? (Tac Bg 4)=some (.int .i64 g.next)/\w'.cell? (Tac Bg 5)=some (.slice a.tp g.tags.length a.tc)/\w'.cell? (Tac Bg 6)=some (.slice a.dp g.Gb.length a.dc)/\w'.cell? (Tac Bg 7)=some (.slice a.vp g.F9.length a.vc)/\w'.cell? (Tac Bg 8)=some (.slice a.hp g.history.length a.hc)):=fun w' e=>by
  have h2:=(e.block Bg (aq CN.o)).trans CN.o;exact ⟨cr h2 _ _ rfl,cr h2 _ _ rfl,cr h2 _ _ rfl,cr h2 _ _ rfl,cr h2 _ _ rfl,cr h2 _ _ rfl,cr h2 _ _ rfl,cr h2 _ _ rfl,cr h2 _ _ rfl⟩
 have HS:=aa hS;clear hS;refine aL (fun w'=>w'.cell? Bg=some (.string g.name)/\w'.cell? (Tac Bg 1)=some (.int .u64 g.id)/\w'.cell? (Tac Bg 2)=some (.int .i64 g.seq)/\w'.cell? (Tac Bg 3)=some (.int .i64 g.Gd)/\w'.cell? (Tac Bg 4)=some (.int .i64 g.next)/\w'.cell? (Tac Bg 5)=some (.slice a.tp g.tags.length a.tc)/\w'.cell? (Tac Bg 6)=some (.slice a.dp g.Gb.length a.dc)/\w'.cell? (Tac Bg 7)=some (.slice a.vp g.F9.length a.vc)/\w'.cell? (Tac Bg 8)=some (.slice a.hp g.history.length a.hc)) 2 [] TcE (HS.o _ (bj W1.heap.size W1).drew) (fun hHeld=>?_);refine fS 0 hHeld ?_;refine lR 1 fun K hK=>?_;go_simp;refine (zq _).mono ?_;rintro e w2 ⟨sm,rfl,hmap,hb2⟩;have cm:Hid (Below W1.heap.size W1 w2):=aa ⟨hb2.os,hb2.tape,hb2.output,hb2.size,hb2.block⟩;have Pk:=aa hmap;clear hmap hb2;refine hK.o _ _ (HS.o _ cm.o) ?_;clear hK K hHeld HS;refine aP TcE rfl ?_;simp only [cQ,cL];have hA:=ae w2 (.cells #[.string g.name,.int .u64 g.id,.int .i64 g.seq,.int .i64 g.Gd,.int .i64 g.next,.slice a.tp g.tags.length a.tc,.slice a.dp g.Gb.length a.dc,.slice a.vp g.F9.length a.vc,.slice a.hp g.history.length a.hc,.map (some sm)] 156);have hN:=b9 w2 (.cells #[.string g.name,.int .u64 g.id,.int .i64 g.seq,.int .i64 g.Gd,.int .i64 g.next,.slice a.tp g.tags.length a.tc,.slice a.dp g.Gb.length a.dc,.slice a.vp g.F9.length a.vc,.slice a.hp g.history.length a.hc,.map (some sm)] 156);have I3:Hid (gY (w2.alloc (.cells #[.string g.name,.int .u64 g.id,.int .i64 g.seq,.int .i64 g.Gd,.int .i64 g.next,.slice a.tp g.tags.length a.tc,.slice a.dp g.Gb.length a.dc,.slice a.vp g.F9.length a.vc,.slice a.hp g.history.length a.hc,.map (some sm)] 156)) w2.heap.size g a):=aa ⟨sm,hN,Pk.o.block (hA.block _ Pk.o.lt)⟩;have cJ:Hid (Below Bg w _):=aa ((cU.o.trans (cm.o.mono (by have:=cU.o.size;omega))).trans (hA.mono (by have:=cU.o.size;have:=cm.o.size;omega)));have Hh:=aq hN;clear hA hN Pk
 go_upto_region 2 with (fail);generalize hW3:World.alloc w2 _=W3 at *;generalize aa9:w2.heap.size=bc at *;clear hW3;have HA4:=aa (ae W3 (.cells #[.func (.func 101) #[.pointer (some bc)] #[],.func (.func 102) #[.pointer (some bc)] #[],.func (.func 103) #[.pointer (some bc)] #[],.func (.func 104) #[.pointer (some bc)] #[],.func (.func 105) #[.pointer (some bc)] #[],.func (.func 106) #[.pointer (some bc)] #[],.func (.func 107) #[.pointer (some bc)] #[],.func (.func 108) #[.pointer (some bc)] #[]] 157));have HN4:=aa (b9 W3 (.cells #[.func (.func 101) #[.pointer (some bc)] #[],.func (.func 102) #[.pointer (some bc)] #[],.func (.func 103) #[.pointer (some bc)] #[],.func (.func 104) #[.pointer (some bc)] #[],.func (.func 105) #[.pointer (some bc)] #[],.func (.func 106) #[.pointer (some bc)] #[],.func (.func 107) #[.pointer (some bc)] #[],.func (.func 108) #[.pointer (some bc)] #[]] 157));go_upto_region 4 with (fail);generalize hW4:World.alloc W3 _=W4 at *;generalize Rz:W3.heap.size=Br at *;clear hW4;have eI:=aa (cJ.o.trans (HA4.o.mono (by have:=cJ.o.size;omega)));have V9:Hid (gY W4 bc g a):=aa (I3.o.below ⟨HA4.o.os,HA4.o.tape,HA4.o.output,HA4.o.size,fun k hk=>HA4.o.block k TcC⟩);clear HA4 I3 cJ cm cU CN;go_loopw [33] (fun i wr=>∃ k:Nat,k<=8/\i=.int .i64 k/\Below W4.heap.size W4 wr/\mchk g=oW ((aZ g).drop k)/\(∀ x∈(aZ g).take k,x.2=0)) (fun i _=>8 - (intOf i).toNat)
 exact ⟨0,TcC,rfl,bj _ _,Ez g,fun x hx=>by simp at hx⟩;obtain ⟨k,hk,rfl,hb,he,hall⟩:=hrel;have HB:=aa hb;clear hb;have HE:=aa he;clear he;have cE:=aa hall;clear hall;have fy:Hid (Below w.heap.size w wr):=aa (by rw [Ms];exact eI.o.trans (HB.o.mono (by have:=eI.o.size;omega)));have th:=V9.o.below HB.o;have MI:=HG.o.mv (Mv.of fy.o);have HSW:=MD.o.below fy.o;have hN:=(HB.o.block Br (aq HN4.o)).trans HN4.o;by_cases hlt:k<8
 ·have hk8:k=0\/k=1\/k=2\/k=3\/k=4\/k=5\/k=6\/k=7:=by omega
  rcases hk8 with rfl | rfl | rfl | rfl | rfl | rfl | rfl | rfl
  ·have q0:=cr hN 0 _ rfl;have HC:Hid (Calls prog 101 #[.pointer (some bc)] wr (Aw (dZ g) wr)):=aa (CJ (ok:=ok) g a bc wr th MI HI.o.tx HSW);have HA:Hid ((aZ g)[0]?=some (dZ g)):=aa rfl;have qT:=aa (HE.o.trans (gW HA.o));have mC:=aa (fun h0=>iX cE.o HA.o h0);clear  th MI HSW hN HE;generalize dZ g=r at *;obtain ⟨p1,x1⟩:=r;dsimp only at HC qT mC;go_wp2_with fail;refine HC.o.mono ?_;rintro e w5 ⟨rfl,hb5⟩;have eK:=Zbl HB hb5;have B3:Hid (Below w.heap.size w w5):=Zbl fy hb5;clear HC hb5 fy HB q0;by_cases hx:x1=0
   ·have qu:(x1 != 0)=false:=by simpa using hx
    have HX:=aa hx;clear hx;go_wp2;go_roundw;exact ⟨1,TcC,TcG,eK.o,Tdb,mC.o HX.o⟩;simp [intOf]
   exact TbG
  ·have q0:=cr hN 1 _ rfl;have h1:(dZ g).2=0:=cE.o _ TcM;have HC:Hid (Calls prog 102 #[.pointer (some bc)] wr (Aw (dw g) wr)):=aa (A7 (ok:=ok) g a bc wr th MI HI.o.tx ⟨(iT h1).1.2.2.1,(iT h1).1.2.2.2.1⟩ HSW);have HA:Hid ((aZ g)[1]?=some (dw g)):=aa rfl;have qT:=aa (HE.o.trans (gW HA.o));have mC:=aa (fun h0=>iX cE.o HA.o h0);clear h1 th MI HSW hN HE;generalize dw g=r at *;obtain ⟨p1,x1⟩:=r;dsimp only at HC qT mC;go_wp2_with fail;refine HC.o.mono ?_;rintro e w5 ⟨rfl,hb5⟩;have eK:=Zbl HB hb5;have B3:Hid (Below w.heap.size w w5):=Zbl fy hb5;clear HC hb5 fy HB q0;by_cases hx:x1=0
   ·have qu:(x1 != 0)=false:=by simpa using hx
    have HX:=aa hx;clear hx;go_wp2;go_roundw;exact ⟨2,TcC,TcG,eK.o,Tdb,mC.o HX.o⟩;simp [intOf]
   exact TbG
  ·have q0:=cr hN 2 _ rfl;have h1:(dZ g).2=0:=cE.o _ TcM;have h2:(dw g).2=0:=cE.o _ TcM;have HC:Hid (Calls prog 103 #[.pointer (some bc)] wr (Aw (dJ g) wr)):=aa (wQ (ok:=ok) g a bc wr th MI HI.o.tx HSW);have HA:Hid ((aZ g)[2]?=some (dJ g)):=aa rfl;have qT:=aa (HE.o.trans (gW HA.o));have mC:=aa (fun h0=>iX cE.o HA.o h0);clear h1 h2 th MI HSW hN HE;generalize dJ g=r at *;obtain ⟨p1,x1⟩:=r;dsimp only at HC qT mC;go_wp2_with fail;refine HC.o.mono ?_;rintro e w5 ⟨rfl,hb5⟩;have eK:=Zbl HB hb5;have B3:Hid (Below w.heap.size w w5):=Zbl fy hb5;clear HC hb5 fy HB q0;by_cases hx:x1=0
   ·have qu:(x1 != 0)=false:=by simpa using hx
    have HX:=aa hx;clear hx;go_wp2;go_roundw;exact ⟨3,TcC,TcG,eK.o,Tdb,mC.o HX.o⟩;simp [intOf]
   exact TbG
  ·have q0:=cr hN 3 _ rfl;have h1:(dZ g).2=0:=cE.o _ TcM;have h2:(dw g).2=0:=cE.o _ TcM;have h3:(dJ g).2=0:=cE.o _ TcM;have HC:Hid (Calls prog 104 #[.pointer (some bc)] wr (Aw (iP g) wr)):=aa (uR (ok:=ok) g a bc wr th MI HI.o.sz ⟨(iT h1).1.2.2.1,(iT h1).1.2.2.2.1⟩ HI.o.kw);have HA:Hid ((aZ g)[3]?=some (iP g)):=aa rfl;have qT:=aa (HE.o.trans (gW HA.o));have mC:=aa (fun h0=>iX cE.o HA.o h0);clear h1 h2 h3 th MI HSW hN HE;generalize iP g=r at *;obtain ⟨p1,x1⟩:=r;dsimp only at HC qT mC;go_wp2_with fail;refine HC.o.mono ?_;rintro e w5 ⟨rfl,hb5⟩;have eK:=Zbl HB hb5;have B3:Hid (Below w.heap.size w w5):=Zbl fy hb5;clear HC hb5 fy HB q0;by_cases hx:x1=0
   ·have qu:(x1 != 0)=false:=by simpa using hx
    have HX:=aa hx;clear hx;go_wp2;go_roundw;exact ⟨4,TcC,TcG,eK.o,Tdb,mC.o HX.o⟩;simp [intOf]
   exact TbG
  ·have q0:=cr hN 4 _ rfl;have h1:(dZ g).2=0:=cE.o _ TcM;have h2:(dw g).2=0:=cE.o _ TcM;have h3:(dJ g).2=0:=cE.o _ TcM;have h4:(iP g).2=0:=cE.o _ TcM;have HC:Hid (Calls prog 105 #[.pointer (some bc)] wr (Aw (mY g) wr)):=aa (rM (ok:=ok) g a bc wr th MI (zm HI.o h1 h2 h3 h4) HSW);have HA:Hid ((aZ g)[4]?=some (mY g)):=aa rfl;have qT:=aa (HE.o.trans (gW HA.o));have mC:=aa (fun h0=>iX cE.o HA.o h0);clear h1 h2 h3 h4 th MI HSW hN HE;generalize mY g=r at *;obtain ⟨p1,x1⟩:=r;dsimp only at HC qT mC;go_wp2_with fail;refine HC.o.mono ?_;rintro e w5 ⟨rfl,hb5⟩;have eK:=Zbl HB hb5;have B3:Hid (Below w.heap.size w w5):=Zbl fy hb5;clear HC hb5 fy HB q0;by_cases hx:x1=0
   ·have qu:(x1 != 0)=false:=by simpa using hx
    have HX:=aa hx;clear hx;go_wp2;go_roundw;exact ⟨5,TcC,TcG,eK.o,Tdb,mC.o HX.o⟩;simp [intOf]
   exact TbG
  ·have q0:=cr hN 5 _ rfl;have h1:(dZ g).2=0:=cE.o _ TcM;have h2:(dw g).2=0:=cE.o _ TcM;have h3:(dJ g).2=0:=cE.o _ TcM;have h4:(iP g).2=0:=cE.o _ TcM;have h5:(mY g).2=0:=cE.o _ TcM;have HC:Hid (Calls prog 106 #[.pointer (some bc)] wr (Aw (qG g) wr)):=aa (BS (ok:=ok) g a bc wr th MI (zm HI.o h1 h2 h3 h4) (Cg h3 h4) (mZ h4));have HA:Hid ((aZ g)[5]?=some (qG g)):=aa rfl;have qT:=aa (HE.o.trans (gW HA.o));have mC:=aa (fun h0=>iX cE.o HA.o h0);clear h1 h2 h3 h4 h5 th MI HSW hN HE;generalize qG g=r at *;obtain ⟨p1,x1⟩:=r;dsimp only at HC qT mC;go_wp2_with fail;refine HC.o.mono ?_;rintro e w5 ⟨rfl,hb5⟩;have eK:=Zbl HB hb5;have B3:Hid (Below w.heap.size w w5):=Zbl fy hb5;clear HC hb5 fy HB q0;by_cases hx:x1=0
   ·have qu:(x1 != 0)=false:=by simpa using hx
    have HX:=aa hx;clear hx;go_wp2;go_roundw;exact ⟨6,TcC,TcG,eK.o,Tdb,mC.o HX.o⟩;simp [intOf]
   exact TbG
  ·have q0:=cr hN 6 _ rfl;have h1:(dZ g).2=0:=cE.o _ TcM;have h2:(dw g).2=0:=cE.o _ TcM;have h3:(dJ g).2=0:=cE.o _ TcM;have h4:(iP g).2=0:=cE.o _ TcM;have h5:(mY g).2=0:=cE.o _ TcM;have h6:(qG g).2=0:=cE.o _ TcM;have HC:Hid (Calls prog 107 #[.pointer (some bc)] wr (Aw (pE g) wr)):=aa (vM (ok:=ok) g a bc wr th MI (zm HI.o h1 h2 h3 h4) (Er HI.o h1 h2 h3 h4 h5));have HA:Hid ((aZ g)[6]?=some (pE g)):=aa rfl;have qT:=aa (HE.o.trans (gW HA.o));have mC:=aa (fun h0=>iX cE.o HA.o h0);clear h1 h2 h3 h4 h5 h6 th MI HSW hN HE;generalize pE g=r at *;obtain ⟨p1,x1⟩:=r;dsimp only at HC qT mC;go_wp2_with fail;refine HC.o.mono ?_;rintro e w5 ⟨rfl,hb5⟩;have eK:=Zbl HB hb5;have B3:Hid (Below w.heap.size w w5):=Zbl fy hb5;clear HC hb5 fy HB q0;by_cases hx:x1=0
   ·have qu:(x1 != 0)=false:=by simpa using hx
    have HX:=aa hx;clear hx;go_wp2;go_roundw;exact ⟨7,TcC,TcG,eK.o,Tdb,mC.o HX.o⟩;simp [intOf]
   exact TbG
  have q0:=cr hN 7 _ rfl;have h1:(dZ g).2=0:=cE.o _ TcM;have h2:(dw g).2=0:=cE.o _ TcM;have h3:(dJ g).2=0:=cE.o _ TcM;have h4:(iP g).2=0:=cE.o _ TcM;have h5:(mY g).2=0:=cE.o _ TcM;have h6:(qG g).2=0:=cE.o _ TcM;have h7:(pE g).2=0:=cE.o _ TcM;have HC:Hid (Calls prog 108 #[.pointer (some bc)] wr (Aw (rY g) wr)):=aa (DC (ok:=ok) g a bc wr th MI HI.o.sz (Ao (iT h1).2 h3 h4) (yB HI.o) (fun v hv=>by have:=(nH h3 v hv).2.1;unfold maxLen;omega));have HA:Hid ((aZ g)[7]?=some (rY g)):=aa rfl;have qT:=aa (HE.o.trans (gW HA.o));have mC:=aa (fun h0=>iX cE.o HA.o h0);clear h1 h2 h3 h4 h5 h6 h7 th MI HSW hN HE;generalize rY g=r at *;obtain ⟨p1,x1⟩:=r;dsimp only at HC qT mC;go_wp2_with fail;refine HC.o.mono ?_;rintro e w5 ⟨rfl,hb5⟩;have eK:=Zbl HB hb5;have B3:Hid (Below w.heap.size w w5):=Zbl fy hb5;clear HC hb5 fy HB q0;by_cases hx:x1=0
  ·have qu:(x1 != 0)=false:=by simpa using hx
   have HX:=aa hx;clear hx;go_wp2;go_roundw;exact ⟨8,TcC,TcG,eK.o,Tdb,mC.o HX.o⟩;simp [intOf]
  exact TbG
 obtain rfl:k=8:=by omega
 have HR:Hid (mchk g=(⟨#[]⟩,0)):=aa HE.o;clear hN th MI HSW;go_wp2;go_ret2;exact ⟨TcK,fy.o⟩
theorem dF.ne {b:Nat}{v:Value}{l:List ByteArray}{cs:Array Value}{t:TypeId}{z:Nat × Nat}(h:dF w B v l)(hb:w.heap[b]?=some (.cells cs t z))(ht:t≠9):v.ownBlock≠some b:=fun e=>by
 obtain ⟨-,h2⟩:=h;rcases h2 with ⟨rfl,_⟩ | ⟨g,cap,cur,rfl,_,hg,_⟩
 ·cases e
 have:g=b:=by simpa [Value.ownBlock] using e
 subst this;rw [hb] at hg;injection hg with hg;injection hg with _ e2;exact ht e2
theorem ck.flatT {a:Addr}{c:Nat}{l:List ByteArray}(h:ck aF 1 ok w [.slice (some a) l.length c] l):∀ (j:Nat) (u:Value),(l.map Value.string)[j]?=some u->w.cell? (a.add j)=some u:=fun j u hu=>by
 rw [rI] at hu;obtain ⟨x,hx,rfl⟩:=Option.map_eq_some_iff.1 hu;obtain ⟨b,off,us,e,_,_,_,hv,hc⟩:=h.elem hx;obtain rfl:a=_:=gj e;obtain rfl:us=_:=hv;have:=hc 0 _ rfl;rw [iz];simpa using this
theorem mW {ops:Array Oper}{rest:List Oper}{o:Oper}{a:Act}{Q:Exit->Act->World->Prop}(hgd:o.guard=none)(s x:Operand)
  (ho:o.op=.call { callee:=.builtin .append,args:=#[s,x],argTypes:=#[26,26] })
  (B:Nat) (v:Value) (l ps:List ByteArray) (hs:a.eval s=v) (hown:dF w B v l) (p:Option Addr) (c:Nat) (hx:a.eval x=.slice p ps.length c) (hr:ck aF 1 ok w [.slice p ps.length c] ps)
  (hl:l.length+ps.length<=100000000) (hB:B<=w.heap.size)
  (h:∀ v' w',dF w' B v' (l++ps)->Below B w w'->w.grownBy w' v.ownBlock->wpList prog ops Q rest (a.put o.dst v') w'):wpList prog ops Q (o :: rest) a w:=by
 obtain ⟨i0,hi,hz0,hz1,hz2⟩:=cy o5;cases p with
 | none =>
  have hp:ps=[]:=by
   obtain ⟨p',c',e,_,_,h3⟩:=hr;simp only [rp,Value.slice.injEq,and_true] at e;have e1:=e.1;cases ps with
   | nil=>rfl
   | cons y ys =>
    obtain ⟨b,off,e4,_⟩:=h3 TcD;rw [<- e1] at e4;cases e4
  subst hp;refine wpList_plain hgd fun K hK=>?_
  have hrun:(Builtin.append_ #[26,26] o.type #[v,.slice none 0 c]).run prog w=.ok v w:=by
   rcases hown.2 with ⟨rfl,_⟩ | ⟨g,cap,cur,rfl,_,_,vr,_⟩
   ·simp [Builtin.append_,tU underlying26,sizeOf,typeInfo,hi,Builtin.lenOf,Builtin.firstCells]
   simp [Builtin.append_,tU underlying26,sizeOf,typeInfo,hi,Builtin.lenOf,Builtin.firstCells,vr,storeCells]
  unfold Oper.wp execOp;simp only [ho,resolve,invoke,builtin,Sem.run_bind,Sem.run_pure,ud,tS,iu,List.map_nil,hs,hx,Ox,hrun];exact hK _ _ (h v w (by rw [eM];exact hown) (bj _ _) ⟨rfl,rfl,rfl,bk _,fun _ _ _=>rfl⟩)
 | some ad =>
  refine tE w hgd s x 26 ho B 9 i0 _ 1 16 underlying26 hi hz0 hz1 hz2 rfl TcF v l.length (l.map Value.string) hs hown ad ps.length c (ps.map Value.string) hx TcD hr.flatT TcQ TcN TcC hB (fun v' w' ho' hg _=>?_);refine h v' w' ?_ ((bj B w).grown hg hB (fun k hk=>(fh hown k hk).1)) hg;unfold dF;rw [gl,cD];exact ho'
def je (l:List aB):List ByteArray:=l.flatMap rQ
theorem BX {l:List aB}:(je (l.take k)).length<=(je l).length:=by
 conv=>rhs;rw [<- rk k l]
 unfold je;rw [xt,cD];omega
theorem yT {l:List aB}{s:aB}(h:l[k]?=some s):je (l.take (k+1))=je (l.take k)++(s.Ga.filter (·.vol)).map (·.on)++(if s.log.toList.isEmpty then [] else [s.log])++(if s.pool.toList.isEmpty then [] else [s.pool]):=by
 rw [take_snoc' l k s h];simp [je,rQ]
def vP (l:List aR):List ByteArray:=(l.filter (·.vol)).map (·.on)
theorem Df (l:List aR):(vP l).length<=l.length:=by
 unfold vP;rw [fW];exact tk ..
theorem BA {l:List aR}{x:aR}(h:l[k]?=some x):vP (l.take (k+1))=vP (l.take k)++if x.vol=true then [x.on] else []:=by
 rw [take_snoc' l k x h];unfold vP;cases hv:x.vol <;> simp [hv]
theorem TbN {p:Prop}(h:p:=by
 ·obtain rfl:k=v.Gf.length:=by omega
  rw [cI] at HOW;go_wp2;go_ret;exact ⟨_,rfl,by rw [HUV.o];exact HOW.o,HB.o⟩):p:=h
theorem Td2 {p:Prop}(h:p:=by rw [Hk.o];exact HOW4.o):p:=h
theorem BH (v:ay)(u:List Value)(w:World)(hv:aN ok w u v)(hz:qD v)(hl:(kY v).length<=1000000) :
  Calls prog 160 #[.agg u.toArray] w (Dx w.heap.size w (kY v)):=by
 obtain ⟨tv,sv,rfl,ew,fL⟩:=hv;obtain ⟨tp,tc,rfl,_,_⟩:=ew.cap;obtain ⟨sp,sc,rfl,hsc1,hsc2⟩:=fL.cap;have Zv:=aa fL;clear fL ew;have GF:=hz.Gf;have HZ:=aa hz;clear hz;have hl':(je v.Gf).length<=1000000:=hl;clear hl;have HUV:Hid (kY v=je v.Gf):=aa rfl;have HB:=aa (ae w (.cells (Taf v tp tc sp sc) 68));go_enter func160,ntmps160
 go_upto_region 3 with (fail);generalize hW1:World.alloc w _=W1 at *;clear hW1;go_loopw [3,11] (fun l i wr=>∃ k:Nat,k<=v.Gf.length/\i=.int .i64 k/\dF wr w.heap.size l (je (v.Gf.take k))/\Below w.heap.size w wr) (fun _ i _=>v.Gf.length - (intOf i).toNat)
 exact ⟨0,cg _,rfl,dF.nil _ _,HB.o⟩;clear HB;obtain ⟨k,hk,rfl,hown,hB⟩:=hrel;have HOW:=aa hown;clear hown;have HB:=aa hB;clear hB;have mA:=HB.o.size;have ab0:(je (v.Gf.take k)).length<=1000000:=cA BX hl';by_cases hlt:k<v.Gf.length
 ·obtain ⟨s,hs⟩:=aj v.Gf k hlt;obtain ⟨b,off,us,rfl,gR,cX,ez,eE,hcv⟩:=Zv.o.elem hs;have hsm:=ct hs;have hal:=(HZ.o.seg s hsm).1;obtain ⟨av,Oz,rfl,py,hst⟩:=eE;obtain ⟨ap,ac,rfl,_,_⟩:=py.cap;obtain ⟨eN,eR,rfl,_,_⟩:=hst.cap;have ya:=aa py;clear py hst;have cT:wr.heap[b]?=w.heap[b]?:=HB.o.block b cX;obtain ⟨q0,q1,q2,q3,q4,q5,q6,q7,q8,q9,q10⟩:=ak5 cT hcv;have HSN:=aa (yT hs);clear hs hsm hcv ez cT;have lj:=aa (b9 wr (.cells (Tae s ap ac eN eR) 114));have hA:=ae wr (.cells (Tae s ap ac eN eR) 114);have cm:=aa (HB.o.trans (hA.mono mA));have HOW2:=aa (HOW.o.below hA);clear hA;go_upto_region 5 with (fail);clear q0 q1 q2 q3 q4 q5 q6 q7 q8 q9 q10;generalize hW2:World.alloc wr _=W2 at *;generalize hBs:wr.heap.size=Bs at *;clear hW2 HB HOW;have s3:=cr lj.o 3 _ rfl;go_upto_region 6 with (fail);clear s3;go_loopw [3,18] (fun l i wi=>∃ j:Nat,j<=s.Ga.length/\i=.int .i64 j/\dF wi w.heap.size l (je (v.Gf.take k)++vP (s.Ga.take j))/\wi.heap[Bs]?=some (.cells (Tae s ap ac eN eR) 114 (0,0))/\Below w.heap.size w wi) (fun _ i _=>s.Ga.length - (intOf i).toNat)
  exact ⟨0,cg _,rfl,by rw [iv];simpa [vP] using HOW2.o,lj.o,cm.o⟩;clear lj cm HOW2;obtain ⟨j,hj,rfl,hown,gO,hB⟩:=hrel;have HOW:=aa hown;clear hown;have HB:=aa hB;clear hB;have lj:=aa gO;clear gO;have aj8:=HB.o.size;have mb:=Df (s.Ga.take j);rw [ey] at mb;by_cases hlt2:j<s.Ga.length
  ·obtain ⟨x,hx⟩:=aj s.Ga j hlt2;obtain ⟨b2,off2,us2,hsp,I0,C2,B5,C3,hcv2⟩:=ya.o.elem hx;subst hsp;obtain rfl:us2=_:=C3;have AD:wr.heap[b2]?=w.heap[b2]?:=HB.o.block b2 C2;obtain ⟨q0,q1,q2⟩:=Mn AD hcv2;have XU:=aa (BA hx);clear hcv2 B5 hx AD;have Pm:=aq lj.o;have hA:=ae wr (.cells (Tau x) 53);have yb:=aa (b9 wr (.cells (Tau x) 53));have cm:=aa (HB.o.trans (hA.mono aj8));have HOW2:=aa (HOW.o.below hA);have Hi:=aa ((hA.block _ Pm).trans lj.o);clear hA;go_upto_region 8 with (fail);clear q0 q1 q2;generalize hW3:World.alloc wr _=W3 at *;generalize NU:wr.heap.size=Ba at *;clear hW3 HB HOW lj;have a0:=cr yb.o 0 _ rfl;have a1:=cr yb.o 1 _ rfl
   cases I2:x.vol with
   | false =>
    rw [I2] at a0 XU;rw [bh TcD,eM] at XU;have HV:=aa I2;clear I2;go_wp2;go_roundw;exact ⟨j+1,TcC,TcG,by rw [XU.o];exact HOW2.o,Hi.o,cm.o⟩;simp [intOf];omega
   | true =>
    rw [I2] at a0 XU;rw [aw rfl] at XU;have HV:=aa I2;clear I2;have Wa:=cm.o.size;go_wp2_with (at_builtin;refine dz rfl _ _ rfl w.heap.size _ (je (v.Gf.take k)++vP (s.Ga.take j)) x.on rfl ?c1 W3.heap.size 1 rfl ?c2 ?c3 ?c4 ?_)
    case c1=>exact HOW2.o.alloc _
    case c2=>exact aD rfl rfl
    case c3=>rw [cD];omega
    case c4=>simp;omega
    intro v' w1 hown1 hb1 hg1;have hA:=ae W3 (.cells #[.string x.on] 9);have ml:=(hA.block _ (aq Hi.o)).trans Hi.o;have eI:=aa ((cm.o.trans (hA.mono Wa)).trans hb1);have Tx:=aa ((hg1.block Bs (aq ml) (fun e=>(HOW2.o.below hA).ne ml TcF e.symm)).trans ml);have HOW4:=aa hown1;clear hA ml hb1 hg1 hown1;go_wp2;go_roundw;exact ⟨j+1,TcC,TcG,by rw [XU.o];exact HOW4.o,Tx.o,eI.o⟩;simp [intOf];omega
  obtain rfl:j=s.Ga.length:=by omega
  rw [cI] at HOW mb;generalize Pn:je (v.Gf.take k)++vP s.Ga=AL at *;have Wb:AL.length<=3000000:=by rw [<- Pn,cD];omega
  have Hk:Hid (je (v.Gf.take (k+1))=AL++(if s.log.toList.isEmpty then [] else [s.log])++(if s.pool.toList.isEmpty then [] else [s.pool])):=aa (by rw [HSN.o,<- Pn];rfl);clear Pn mb HSN;have s6:=cr lj.o 6 _ rfl;have s7:=cr lj.o 7 _ rfl;have Pm:=aq lj.o;cases Fi:s.log.toList.isEmpty with
  | true =>
   rw [Fi,aw rfl,eM] at Hk;cases PY:s.pool.toList.isEmpty with
   | true =>
    rw [PY,aw rfl,eM] at Hk;go_wp2;go_roundw;exact ⟨k+1,TcC,TcG,by rw [Hk.o];exact HOW.o,HB.o⟩;simp [intOf];omega
   | false =>
    rw [PY,bh TcD] at Hk;go_wp2_with (at_builtin;refine dz rfl _ _ rfl w.heap.size _ AL s.pool rfl ?d1 wr.heap.size 1 rfl ?d2 ?d3 ?d4 ?_)
    case d1=>exact HOW.o.alloc _
    case d2=>exact aD rfl rfl
    case d3=>omega
    case d4=>simp;omega
    intro v' w1 hown1 hb1 hg1;have eI:=aa ((HB.o.alloc aj8 _).trans hb1);have HOW4:=aa hown1;clear hb1 hg1 hown1;go_wp2;go_roundw;exact ⟨k+1,TcC,TcG,Td2,eI.o⟩;simp [intOf];omega
  | false =>
   rw [Fi,bh TcD] at Hk;go_wp2_with (at_builtin;refine dz rfl _ _ rfl w.heap.size _ AL s.log rfl ?e1 wr.heap.size 1 rfl ?e2 ?e3 ?e4 ?_)
   case e1=>exact HOW.o.alloc _
   case e2=>exact aD rfl rfl
   case e3=>omega
   case e4=>simp;omega
   intro v' w1 hown1 hb1 hg1;have hA:=ae wr (.cells #[.string s.log] 9);have ml:=(hA.block _ Pm).trans lj.o;have eI:=aa ((HB.o.trans (hA.mono aj8)).trans hb1);have Tx:=aa ((hg1.block Bs (aq ml) (fun e=>(HOW.o.below hA).ne ml TcF e.symm)).trans ml);have HOW4:=aa hown1;have Wc:=eI.o.size;clear hA ml hb1 hg1 hown1 s6 s7;have s7:=cr Tx.o 7 _ rfl
   cases PY:s.pool.toList.isEmpty with
   | true =>
    rw [PY,aw rfl,eM] at Hk;go_wp2;go_roundw;exact ⟨k+1,TcC,TcG,Td2,eI.o⟩;simp [intOf];omega
   | false =>
    rw [PY,bh TcD] at Hk;go_wp2_with (at_builtin;refine dz rfl _ _ rfl w.heap.size _ (AL++[s.log]) s.pool rfl ?f1 w1.heap.size 1 rfl ?f2 ?f3 ?f4 ?_)
    case f1=>exact HOW4.o.alloc _
    case f2=>exact aD rfl rfl
    case f3=>simp;omega
    case f4=>simp;omega
    intro v2 w2 hown2 hb2 hg2;have eK:=aa ((eI.o.alloc Wc _).trans hb2);have HOW5:=aa hown2;clear hb2 hg2 hown2;go_wp2;go_roundw;exact ⟨k+1,TcC,TcG,by rw [Hk.o,cV];exact HOW5.o,eK.o⟩;simp [intOf];omega
 exact TbN
def rO (A:List (ay × Value)):Value->Option Value
 | .string s=>(A.find? fun p=>decide (p.1.name=s)).map (·.2)
 | _=>none
theorem zJ (A:List (ay × Value))(v:ay)(x:Value)(h:A.find? (fun p=>decide (p.1.name=v.name))=none)(key:Value):rO (A++[(v,x)]) key=upd (rO A) (.string v.name) x key:=by
 by_cases hk:key=.string v.name
 ·subst hk;rw [upd_same];show ((A++[(v,x)]).find? fun p=>decide (p.1.name=v.name)).map _=_;rw [tD,h];simp
 rw [bP hk];unfold rO;split
 ·rename_i s;have:¬ v.name=s:=fun e=>hk Tdm;rw [tD];simp [this]
 rfl
structure gQ (B:Nat)(w:World)(bm:Nat)(F9:List ay)(A:List (ay × Value)):Prop where
 map:bi prog 9 w bm A.length (rO A)
 fd:∀ nm,(A.find? fun p=>decide (p.1.name=nm)).map (·.1)=aM F9 nm
 rd:∀ p∈A,ck aF 1 (fun b=>B<=b) w [p.2] (kY p.1)
 le:A.length<=F9.length
theorem gQ.below (h:gQ B w bm F9 A)(hb:Below w.heap.size w w'):gQ B w' bm F9 A :=
 ⟨h.map.block (hb.block _ h.map.lt),h.fd,fun p hp=>(ck.moves aF.moves).mv (Mv.of hb) (h.rd p hp),h.le⟩
theorem FM (w:World):(zeroValue 26).run prog w=.ok (.slice none 0 0) w:=by kernel_rfl
theorem gQ.look (h:gQ B w bm F9 A)(nm:ByteArray)(hn:nm.size<=maxLen) :
  ∃ (p:Option Addr) (c:Nat),(Instr.lookup 162 (.map (some bm)) (.string nm) true).run prog w=.ok (.tuple #[.slice p ((dU F9 nm).getD []).length c,.bool (aM F9 nm).isSome]) w /\
   (Instr.lookup 162 (.map (some bm)) (.string nm) false).run prog w=.ok (.slice p ((dU F9 nm).getD []).length c) w/\ck aF 1 (fun b=>B<=b) w [.slice p ((dU F9 nm).getD []).length c] ((dU F9 nm).getD []):=by
 have hlk:=bi.look h.map oM underlying162 (FM w) (key:=.string nm) (gG nm hn);have hf:=h.fd nm;have e0:rO A (.string nm)=(A.find? fun p=>decide (p.1.name=nm)).map (·.2):=rfl;cases ha:A.find? (fun p=>decide (p.1.name=nm)) with
 | none =>
  rw [ha] at hf e0;have hf':aM F9 nm=none:=hf.symm;have hl:(dU F9 nm).getD []=[]:=by unfold dU;rw [hf'];rfl
  rw [e0] at hlk;rw [hl,hf'];exact ⟨none,0,hlk.2,hlk.1,ck.nil⟩
 | some p =>
  rw [ha] at hf e0;have hf':aM F9 nm=some p.1:=hf.symm;have hl:(dU F9 nm).getD []=kY p.1:=by unfold dU;rw [hf'];rfl
  rw [e0] at hlk;have hr:=h.rd p (eV ha);obtain ⟨q,c,e,_,_⟩:=hr.cap;rw [hl,hf'];refine ⟨q,c,?_⟩;rw [<- e];exact ⟨hlk.2,hlk.1,hr⟩
theorem qh (h:F9[k]?=some v)(nm:ByteArray):aM (F9.take (k+1)) nm=(aM (F9.take k) nm).or (if v.name=nm then some v else none):=by
 unfold aM;rw [take_snoc' F9 k v h,tD];congr 1
 by_cases e:v.name=nm <;> simp [e]
theorem gQ.skip (h:gQ B w bm (F9.take k) A)(hv:F9[k]?=some v)(hs:(aM (F9.take k) v.name).isSome=true):gQ B w bm (F9.take (k+1)) A :=
 ⟨h.map,fun nm=>by
  rw [h.fd nm,qh hv nm];by_cases e:v.name=nm
  ·subst e;obtain ⟨x,hx⟩:=Option.isSome_iff_exists.1 hs;rw [hx];rfl
  rw [bh e];simp,h.rd,cA h.le (by rw [ey,ey];omega)⟩
theorem gQ.snoc {x:Value}(h:gQ B w bm (F9.take k) A)(hv:F9[k]?=some v)(hs:(aM (F9.take k) v.name).isSome=false)(hr:ck aF 1 (fun b=>B<=b) w [x] (kY v))
  (hm:bi prog 9 w' bm (A.length+1) (upd (rO A) (.string v.name) x)) (hg:w.grownBy w' (some bm)):gQ B w' bm (F9.take (k+1)) (A++[(v,x)]):=by
 have hnone:A.find? (fun p=>decide (p.1.name=v.name))=none:=by
  have:=h.fd v.name;cases ha:A.find? (fun p=>decide (p.1.name=v.name)) with
  | none=>rfl
  | some p=>rw [ha] at this;rw [<- this] at hs;cases hs
 have Hv:∀ (b:Nat) (cs:Array Value) (t:TypeId) (z:Nat × Nat),w.heap[b]?=some (.cells cs t z)->w'.heap[b]?=w.heap[b]?:=fun b cs t z hb=>oJ hg (aq hb) (fun e=>h.map.ne (e ▸ hb) rfl)
 have C4:∀ {y:Value} {l:List ByteArray},ck aF 1 (fun b=>B<=b) w [y] l->ck aF 1 (fun b=>B<=b) w' [y] l:=fun {y l} hy=>by
  obtain ⟨p,c,e,h1,h2,h3⟩:=hy;refine ⟨p,c,e,h1,h2,fun h0=>?_⟩;obtain ⟨b,off,e2,hlt,gw,hc⟩:=h3 h0;have Hh:w'.heap[b]?=w.heap[b]?:=by
   obtain ⟨x0,hx0⟩:=aj l 0 h0;obtain ⟨us,ez,eE,hcv⟩:=hc 0 x0 hx0;obtain rfl:us=_:=eE;have:=hcv 0 _ rfl;unfold World.cell? at this;cases hb:w.heap[b]? with
   | none=>rw [hb] at this;simp at this
   | some o =>
    cases o with
    | cells cs t z=>exact (Hv b cs t z hb).trans hb
    | map es c=>rw [hb] at this;simp at this
    | _=>rw [hb] at this;simp at this
  exact ⟨b,off,e2,cC hlt hg.size,gw,fun i x hx=>by
   obtain ⟨us,ez,eE,hcv⟩:=hc i x hx;exact ⟨us,ez,eE,fun j z hz=>(cd (a:=⟨b,_,none⟩) Hh).trans (hcv j z hz)⟩⟩
 refine ⟨?_,fun nm=>?_,fun p hp=>?_,?_⟩
 ·rw [cD];exact hm.congr fun key _ _=>zJ A v x hnone key
 ·rw [tD,qh hv nm,<- h.fd nm]
  cases A.find? (fun p=>decide (p.1.name=nm)) with
  | none=>by_cases e:v.name=nm <;> simp [e]
  | some p=>simp
 ·rcases List.mem_append.1 hp with hp | hp
  ·exact C4 (h.rd p hp)
  obtain rfl:=List.mem_singleton.1 hp;exact C4 hr
 have:=h.le;have:=(List.getElem?_eq_some_iff.1 hv).1;rw [cD,ey] at *;simp only [cS,Ox];omega
structure uw (g:af):Prop where
 sz:JT g
 vn:∀ v∈g.F9,v.name.size<=maxLen
 ul:∀ v∈g.F9,(kY v).length<=1000
 un:∀ v∈g.F9,∀ x∈kY v,x.size<=maxLen
 vl:g.F9.length<=1000
def Fs (B:Nat)(F9:List ay)(w:World)(e:Ending)(w':World):Prop:=∃ bm A,e=.returned (.map (some bm))/\gQ B w' bm F9 A/\Below w.heap.size w w'/\w.heap.size<=bm
attribute [local go_sem] run_makeMap_plain
theorem AU (g:af)(a:bN)(w:World)(hr:ck aN 6 ok w [.slice a.vp g.F9.length a.vc] g.F9)(hu:uw g) :
  Calls prog 112 #[.agg (Tad g a)] w (Fs w.heap.size g.F9 w):=by
 have HG:=aa hr;have HU:=aa hu;have mb:=hu.vl;obtain ⟨vp,vc,sT,ao8,ap0⟩:=hr.cap;clear hr hu;injection sT with e1 e2 e3;obtain ⟨ID,gtc,gdp,G3,G4,Ge,Hb,Hc⟩:=a;dsimp only at e1 e2 e3;subst e1;subst e3;clear e2;have hA1:=ae w (.cells (Tam g ID gtc gdp G3 G4 Ge Hb Hc) 31);have hA2:=ae (w.alloc (.cells (Tam g ID gtc gdp G3 G4 Ge Hb Hc) 31)) (.map #[] 0);have hN1:=b9 w (.cells (Tam g ID gtc gdp G3 G4 Ge Hb Hc) 31);have hm1:=bi.made prog 9 (w.alloc (.cells (Tam g ID gtc gdp G3 G4 Ge Hb Hc) 31));rw [cW] at hm1;have Oa:=aa ((hA2.block _ (aq hN1)).trans hN1);clear hN1;have Nf:=aa hm1;clear hm1;have cU:=aa (hA1.trans (hA2.mono hA1.size));clear hA1 hA2;go_enter func112,ntmps112
 go_upto_region 2 with (fail);generalize hW1:World.alloc (World.alloc w _) _=W1 at *;clear hW1;have g7:=cr Oa.o 7 _ rfl;have HLK:=aa (show gQ w.heap.size W1 (w.heap.size+1) (g.F9.take 0) [] from ⟨Nf.o.congr (fun key _ _=>by unfold rO;split <;> rfl),fun nm=>by simp [aM],fun p hp=>absurd hp TcD,TcD⟩);clear Nf Oa;go_upto_region 3 with (fail);clear g7;go_loopw [12] (fun i wr=>∃ k:Nat,k<=g.F9.length/\i=.int .i64 k/\Below w.heap.size w wr/\∃ A,gQ w.heap.size wr (w.heap.size+1) (g.F9.take k) A) (fun i _=>g.F9.length - (intOf i).toNat)
 exact ⟨0,cg _,rfl,cU.o,_,HLK.o⟩;clear cU HLK;obtain ⟨k,hk,rfl,hB,A,hlk⟩:=hrel;have HB:=aa hB;clear hB;have HLK:=aa hlk;clear hlk;by_cases hlt:k<g.F9.length
 ·obtain ⟨v,hv⟩:=aj g.F9 k hlt;obtain ⟨b,off,us,rfl,gR,cX,ez,eE,hcv⟩:=HG.o.elem hv;have Zr:=ct hv;have hns:=HU.o.vn v Zr;have HVU:=aa (HU.o.ul v Zr);have HVZ:=aa (HU.o.sz.vz v Zr);have XU:=aa eE;obtain ⟨tv,sv,rfl,ew,fL⟩:=eE;obtain ⟨tp,tc,rfl,_,_⟩:=ew.cap;obtain ⟨sp,sc,rfl,_,_⟩:=fL.cap;have cT:wr.heap[b]?=w.heap[b]?:=HB.o.block b cX;obtain ⟨q0,q1,q2,q3,q4,q5⟩:=NG cT hcv;have HV:=aa hv;clear hcv ez cT ew fL Zr hv;have hA:=ae wr (.cells (Taf v tp tc sp sc) 68);have zv:=aa (b9 wr (.cells (Taf v tp tc sp sc) 68));have cm:=Zbl HB hA;have aq4:=aa (HLK.o.below hA);clear hA;go_upto_region 5 with (fail);clear q0 q1 q2 q3 q4 q5;generalize hW2:World.alloc wr _=W2 at *;generalize hBv:wr.heap.size=Bv at *;clear hW2 HB HLK;have v0:=cr zv.o 0 _ rfl;obtain ⟨lp,lc,hl1,-,-⟩:=aq4.o.look v.name hns;cases Po:(aM (g.F9.take k) v.name).isSome with
  | true =>
   rw [Po] at hl1;have RG:=aa (aq4.o.skip HV.o Po);have YC:=aa Po;clear Po;go_wp2;go_roundw;exact ⟨k+1,TcC,TcG,cm.o,_,RG.o⟩;simp [intOf];omega
  | false =>
   rw [Po] at hl1;have YC:=aa Po;clear Po;go_upto_region 7 with (fail);clear hl1 v0;have hS:∀ w':World,Below W2.heap.size W2 w'->(w'.cell? Bv=some (.string v.name)/\w'.cell? (Tac Bv 1)=some (.int .u64 v.id)/\w'.cell? (Tac Bv 2)=some (.bool v.hidden)/\w'.cell? (Tac Bv 3)=some (.bool v.ro)/\w'.cell? (Tac Bv 4)=some (.slice tp v.tags.length tc)/\w'.cell? (Tac Bv 5)=some (.slice sp v.Gf.length sc)):=fun w' e=>by
    have h2:=(e.block Bv (aq zv.o)).trans zv.o;exact ⟨cr h2 _ _ rfl,cr h2 _ _ rfl,cr h2 _ _ rfl,cr h2 _ _ rfl,cr h2 _ _ rfl,cr h2 _ _ rfl⟩
   have HS:=aa hS;clear hS;refine aL (fun w'=>w'.cell? Bv=some (.string v.name)/\w'.cell? (Tac Bv 1)=some (.int .u64 v.id)/\w'.cell? (Tac Bv 2)=some (.bool v.hidden)/\w'.cell? (Tac Bv 3)=some (.bool v.ro)/\w'.cell? (Tac Bv 4)=some (.slice tp v.tags.length tc)/\w'.cell? (Tac Bv 5)=some (.slice sp v.Gf.length sc)) 5 [] TcE (HS.o _ (bj W2.heap.size W2).drew) (fun hHeld=>?_);refine fS 0 hHeld ?_;refine fS 1 hHeld ?_;refine fS 2 hHeld ?_;refine fS 3 hHeld ?_;refine lR 4 fun K hK=>?_;go_simp;refine (BH (ok:=ok) v _ _ (aN.moves.mv (Mv.of (cm.o.trans ((bj W2.heap.size W2).drew.mono cm.o.size))) XU.o) HVZ.o (by have:=HVU.o;omega)).mono ?_;rintro e w3 ⟨uv,rfl,how,hb3⟩;have cJ:Hid (Below W2.heap.size W2 w3):=aa ⟨hb3.os,hb3.tape,hb3.output,hb3.size,hb3.block⟩;have V6:Hid (ck aF 1 (fun b=>w.heap.size<=b) w3 [uv] (kY v)):=aa (how.rd fun b e=>cA cm.o.size (fh how b e).1);clear how hb3;refine hK.o _ _ (HS.o _ cJ.o) ?_;clear hK K hHeld HS;refine aP TcE rfl ?_;simp only [cQ,cL];have hlen:A.length<=1000:=by have:=aq4.o.le;rw [ey] at this;omega
   obtain ⟨w',hst,hm',hg',hz'⟩:=bi.store (aq4.o.below cJ.o).map oM underlying162 (rr hlen TcF) (gG v.name hns) uv;have HSN:=aa ((aq4.o.below cJ.o).snoc HV.o YC.o V6.o hm' hg');have eI:Hid (Below w.heap.size w w'):=aa ((cm.o.trans (cJ.o.mono cm.o.size)).trans ((cR.grown hg').below (B:=w.heap.size) (cA cm.o.size cJ.o.size) (fun q e=>by omega)));clear hm' hg' hz';go_wp2;go_roundw;exact ⟨k+1,TcC,TcG,eI.o,_,HSN.o⟩;simp [intOf];omega
 obtain rfl:k=g.F9.length:=by omega
 rw [cI] at HLK;go_wp2;go_ret;exact ⟨_,_,rfl,HLK.o,HB.o,TcC⟩
end Go.Proofs.YtaagglbgohjldaaGreatDoor
