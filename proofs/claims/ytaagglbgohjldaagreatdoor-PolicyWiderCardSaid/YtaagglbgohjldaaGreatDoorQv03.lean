/- Lemmas: MkD. -/
import Derived.Test.YtaagglbgohjldaaGreatDoorQv02
import Derived.Deep.RegionLaw
import Derived.Deep.RegionHeld3
set_option maxRecDepth 100000
set_option maxHeartbeats 32000000
set_option linter.all false
namespace Go.Proofs.YtaagglbgohjldaaGreatDoor
open Go.Proofs.Tryz
open Go.RowKit
theorem TeH {p:Prop}(h:p:=by have:(l.length+1)*bytes<=2000000*1000:=ue (by omega) Hv;omega):p:=h
theorem wF {α:Type}{V:jx α}(hV:Moves V){sz bytes:Nat}{t e:TypeId}{i0:TypeInfo}{z:Value}(hu:prog.underlying t=some (.slice e))(hi:prog.info? e=some i0)(hz:i0.zero=some z)(hsize:i0.size=sz)(hby:i0.bytes=bytes)(hzs:z.cells.size=sz)(hsz:0<sz)(Hv:bytes<=1000)
  {w:World} {ops:Array Oper} {rest:List Oper} {o:Oper} {a:Act} {Q:Exit->Act->World->Prop} (hgd:o.guard=none) (s x:Operand)
  (ho:o.op=.call { callee:=.builtin .append,args:=#[s,x],argTypes:=#[t,t] })
  (B:Nat) (ok:Nat->Prop) (v:Value) (l:List α) (p:α) (hs:a.eval s=v) (hown:bF V sz e B ok w v l) (g c:Nat) (u:List Value) (hx:a.eval x=.slice (some g) 1 c)
  (ez:u.length=sz) (huv:V ok w u p) (hu1:∀ z∈u,z.oneCell'=true) (hc:∀ (j:Nat) (y:Value),u[j]?=some y->w.cell? (g,j)=some y) (hl:l.length<=1000000) (hB:B<=w.heap.size)
  (gw:∀ b,v.ownBlock=some b->¬ ok b)
  (h:∀ v' w',bF V sz e B ok w' v' (l++[p])->w.grownBy w' v.ownBlock->wpList prog ops Q rest (a.put o.dst v') w'):wpList prog ops Q (o :: rest) a w:=by
 obtain ⟨cs,hrow,hf⟩:=hown;refine tE w hgd s x t ho B e i0 z sz bytes hu hi hz hsize hby hzs hsz v l.length cs hs hrow ⟨g,0,none⟩ 1 c u hx TcC (fun j y hy=>?_) hu1 TcN TeH hB (fun v' w' ho' hg _=>?_)
 ·rw [iz,eJ];exact hc j y hy
 have hm:Mv ok ok w w':=⟨hg.size,fun b hb gR=>⟨gR,hg.block b hb (fun e=>gw b e.symm gR)⟩⟩
 refine h v' w' ⟨cs++u,?_,(Flat.one ez (hV.mv hm huv) hu1).append _ _ (Flat.moves hV hm _ _ hf)⟩ hg;rw [cD];exact ho'
def iQ:List ByteArray:=[⟨#[99,111,108,100]⟩,⟨#[102,97,115,116]⟩,⟨#[115,105,116,101,61,49]⟩,⟨#[115,105,116,101,61,50]⟩]
def FH (b:Nat)(w:World)(e:Ending)(w':World):Prop:=∃ v l,e=.returned v/\List.Sublist l iQ/\ck aF 1 (fun k=>w.heap.size<=k) w' [v] l/\Src w' b/\cR (fun i=>i=b) w w'
theorem o5:(prog.info? 9).map (fun i=>(i.zero,i.size,i.bytes))=some (some (.string ⟨#[]⟩),1,16):=by kernel_rfl
theorem TcG {p:Prop}(h:p:=by go_num):p:=h
theorem TcX {p:Prop}(h:p:=by simpa using hy):p:=h
theorem qY (b:Nat)(w:World)(h:Src w b):Calls prog 17 #[.pointer (some b)] w (FH b w):=by
 have cX:=h.lt;go_enter func17,ntmps17;go_wp2
 go_loopw [3,5] (fun o i wr=>∃ (k:Nat) (l:List ByteArray),k<=4/\i=.int .i64 k/\List.Sublist l (iQ.take k)/\bF aF 1 9 (w.heap.size+1) (fun _=>False) wr o l/\Src wr b/\cR (fun i=>i=b) w wr/\wr.heap[w.heap.size]?=some (.cells (iQ.map Value.string).toArray 9 (0,0))) (fun _ i _=>4 - (intOf i).toNat)
 case atStart =>
  refine ⟨0,[],TcC,rfl,List.Sublist.slnil,⟨[],gS _ _ _ 1,rfl⟩,h.keep fun i hi=>cj _ _ _ TcC,cR.of_below ((bj _ _).alloc (bk _) _),?_⟩;rw [b9];rfl
 obtain ⟨k,l,hk,rfl,u9,hown,QG,oY,hblk⟩:=hrel;have HS:=aa u9;clear u9;have HB:=aa hblk;clear hblk;by_cases hlt:k<4
 ·have hd4:decide ((k:Int)<4)=true:=by simp;omega
  obtain ⟨x,hx⟩:=aj iQ k (by simpa [iQ] using hlt);have HX:=aa hx;clear hx;go_wp2_with fail;refine (bY b _ _ TcC TcC QG).mono ?_;rintro e w1 ⟨v,rfl,hv1,hv2,hs1,hm1⟩;have cU:=aa ((hm1.block w.heap.size (aq HB.o) TcC).trans HB.o);have own1:bF aF 1 9 (w.heap.size+1) (fun _=>False) w1 u3 l:=by
   obtain ⟨cs,ho,hf⟩:=hown;exact ⟨cs,eF ho fun i h1 h2=>hm1.block i h2 TcC,Flat.moves aF.moves ⟨hm1.size,fun _ _ f=>f.elim⟩ _ _ hf⟩
  have M1:=oY.trans hm1 (fun i hi=>.inl hi);by_cases hv:v=0
  ·subst hv;obtain ⟨i0,hi,hz0,hz1,hz2⟩:=cy o5;have hl4:l.length<=4:=cA HS.o.length_le TcH;have HI:=aa hi;clear hi;have H0:=aa hz0;clear hz0;have H1:=aa hz1;clear hz1;have H2:=aa hz2;clear hz2;have cx:w1.cell? (w.heap.size,k)=some (.string x):=by
    have:=HX.o;simp [World.cell?,cU.o,this]
   have TL:w.heap.size<w1.heap.size:=aq cU.o;go_wp2_with (at_builtin;refine wF aF.moves underlying26 HI.o H0.o H1.o H2.o rfl TcF TcF rfl _ _ rfl (w.heap.size+1) (fun _=>False) _ l x rfl ?c1 w1.heap.size 1 [.string x] rfl rfl rfl ?c2 ?c3 TcC ?c4 (fun _ _ f=>f) ?_)
   case c1 =>
    obtain ⟨cs,ho,hf⟩:=own1;exact ⟨cs,eF ho fun i h1 h2=>cj _ _ _ h2,Flat.moves aF.moves ⟨TcD,fun _ _ f=>f.elim⟩ _ _ hf⟩
   case c2 =>
    intro z hz;simp at hz;subst hz;rfl
   case c3 =>
    intro j y hy;exact aD rfl TcX
   case c4=>simp;omega
   intro v' w' hown' hg;have M2:=(M1.alloc (.cells #[.string x] 9)).trans (G:=fun i=>w.heap.size+1<=i) ⟨hg.os,hg.tape,hg.output,hg.size,fun i hi hn=>hg.block i hi (fun e=>hn (by obtain ⟨cs,ho,_⟩:=own1;exact (ho.lt i e.symm).1))⟩ (fun i hi=>.inr TcC);have cm:w'.heap[w.heap.size]?=some (.cells (iQ.map Value.string).toArray 9 (0,0)):=by
    rw [hg.block w.heap.size TcH (fun e=>by obtain ⟨cs,ho,_⟩:=own1;have:=(ho.lt _ e.symm).1;omega),cj _ _ _ TL];exact cU.o
   have S2:Src w' b:=Src.keep hs1 fun i hi=>by
    rw [hg.block i TcH (fun e=>by obtain ⟨cs,ho,_⟩:=own1;have:=(ho.lt _ e.symm).1;omega),cj _ _ _ TcC]
   have TM:=aa cm;clear cm;go_wp2;go_roundw;exact ⟨k+1,l++[x],TcC,TcG,by rw [take_snoc' _ _ _ HX.o];exact HS.o.append (List.Sublist.refl _),hown',S2,M2,TM.o⟩;simp [intOf];omega
  have XV:(v == 0)=false:=by simpa using hv
  go_wp2;go_roundw;exact ⟨k+1,l,TcC,TcG,HS.o.trans (List.take_sublist_take_left TcC),own1,hs1,M1,cU.o⟩;simp [intOf];omega
 have hd4:decide ((k:Int)<4)=false:=by simp;omega
 go_wp2;go_ret;refine ⟨_,l,rfl,?_,hown.rd aF.moves TcF (fun _ _ f=>f.elim) (fun g hg=>?_),QG,oY⟩
 ·rw [show iQ=iQ.take k from (jz (by simp [iQ];omega)).symm];exact HS.o
 obtain ⟨cs,ho,_⟩:=hown;have:=ho.lt g hg;omega
section
variable {X Y:Nat->Prop}{w w0 w1 w2:World}{bs bb:Nat}{nv vv rK rN GC Ds X0 OJ:Value}{g g1 g2:af}{next n1 n2:List Int}
variable {k:Nat}
theorem eW.nfp (h:eW X w bs bb nv vv g next)(hk:w.heap.size<=k):¬ QD bs bb nv vv k:=by
 rintro (rfl | rfl | e | e)
 ·have:=h.lt;have:=h.Gj;omega
 ·have:=h.Gj;omega
 ·have:=(h.nLt e).2;omega
 have:=(h.vLt e).2;omega
theorem eW.xfp (h:eW X w bs bb nv vv g next)(hk:X k):¬ QD bs bb nv vv k:=by
 have:=h.xlt k hk;rintro (rfl | rfl | e | e)
 ·have:=h.lt;omega
 ·omega
 ·exact h.xn k e hk
 exact h.xv k e hk
theorem eW.okfp (h:eW X w bs bb nv vv g next)(hk:okB X bb nv vv k):¬ QD bs bb nv vv k:=by
 rintro (rfl | rfl | e | e)
 ·have:=h.lt;have:=hk.1;omega
 ·have:=hk.1;omega
 ·exact hk.2.1 e
 exact hk.2.2.1 e
theorem eW.sets (h:eW X w bs bb nv vv g next)(hY:∀ k,Y k->X k\/(bb<k/\k<w.heap.size/\¬ QD bs bb nv vv k))(hm:Mv (okB X bb nv vv) (okB Y bb nv vv) w w):eW Y w bs bb nv vv g next:=by
 refine ⟨h.src,h.lt,?_,h.ownN,?_,h.ne,fun k hk=>?_,fun k e hk=>?_,fun k e hk=>?_⟩
 ·obtain ⟨tv,dv,hv,e,h1,h2,h3⟩:=h.blk;exact ⟨tv,dv,hv,e,(ck.moves aF.moves).mv hm h1,(ck.moves aO.moves).mv hm h2,h3⟩
 ·obtain ⟨cs,ho,hf⟩:=h.ownV;exact ⟨cs,ho,Flat.moves aN.moves hm _ _ hf⟩
 ·rcases hY k hk with h1 | h1
  ·exact h.xlt k h1
  exact ⟨h1.1,h1.2.1⟩
 ·rcases hY k hk with h1 | h1
  ·exact h.xn k e h1
  exact h1.2.2 (.inr (.inr (.inl e)))
 rcases hY k hk with h1 | h1
 ·exact h.xv k e h1
 exact h1.2.2 (.inr (.inr (.inr e)))
theorem eW.fewer (h:eW X w bs bb nv vv g next)(hY:∀ k,Y k->X k):eW Y w bs bb nv vv g next :=
 h.sets (fun k hk=>.inl (hY k hk)) ⟨bk _,fun _ _ ho=>⟨⟨ho.1,ho.2.1,ho.2.2.1,fun hy=>ho.2.2.2 (hY _ hy)⟩,rfl⟩⟩
theorem eW.fresh (h:eW X w bs bb nv vv g next)(hb:Below w.heap.size w w1)(hY:∀ k,Y k->X k\/(w.heap.size<=k/\k<w1.heap.size)):eW Y w1 bs bb nv vv g next:=by
 have hbl:=h.Gj;have h1:=h.below hb;have hm:Mv (okB X bb nv vv) (okB Y bb nv vv) w w1:=⟨hb.size,fun b gO ho=>⟨⟨ho.1,ho.2.1,ho.2.2.1,fun hy=>(hY b hy).elim ho.2.2.2 TcC⟩,hb.block b gO⟩⟩;refine ⟨h1.src,h.lt,?_,h1.ownN,?_,h.ne,fun k hk=>?_,fun k e hk=>?_,fun k e hk=>?_⟩
 ·obtain ⟨tv,dv,hv,e,q1,q2,q3⟩:=h.blk;exact ⟨tv,dv,hv,(hb.block bb hbl).trans e,(ck.moves aF.moves).mv hm q1,(ck.moves aO.moves).mv hm q2,q3⟩
 ·obtain ⟨cs,ho,hf⟩:=h.ownV;exact ⟨cs,eF ho fun k _ h2=>hb.block k h2,Flat.moves aN.moves hm _ _ hf⟩
 ·rcases hY k hk with q | q
  ·exact h1.xlt k q
  omega
 ·rcases hY k hk with q | q
  ·exact h.xn k e q
  have:=h.nLt e;omega
 rcases hY k hk with q | q
 ·exact h.xv k e q
 have:=h.vLt e;omega
theorem eW.move (h:eW X w bs bb nv vv g next)(hm0:cR X w w1)(hY:∀ k,Y k->X k\/(w.heap.size<=k/\k<w1.heap.size)):eW Y w1 bs bb nv vv g next:=by
 have hbl:=h.Gj;have hlt:=h.lt;have h1:=h.keep (w':=w1) (h.src.keep fun i hi=>hm0.block i TcC (fun q=>by have:=h.xlt i q;omega)) hm0.size (fun k _ h2 hn=>hm0.block k h2 hn);have hm:Mv (okB X bb nv vv) (okB Y bb nv vv) w w1:=⟨hm0.size,fun b gO ho=>⟨⟨ho.1,ho.2.1,ho.2.2.1,fun hy=>(hY b hy).elim ho.2.2.2 TcC⟩,hm0.block b gO ho.2.2.2⟩⟩;refine ⟨h1.src,h.lt,?_,h1.ownN,?_,h.ne,fun k hk=>?_,fun k e hk=>?_,fun k e hk=>?_⟩
 ·obtain ⟨tv,dv,hv,e,q1,q2,q3⟩:=h.blk;exact ⟨tv,dv,hv,(hm0.block bb hbl (fun q=>by have:=h.xlt bb q;omega)).trans e,(ck.moves aF.moves).mv hm q1,(ck.moves aO.moves).mv hm q2,q3⟩
 ·have mb:=fun k e=>h.vLt (k:=k) e
  obtain ⟨cs,ho,hf⟩:=h.ownV;exact ⟨cs,aC ho fun k e=>hm0.block k (mb k e).2 (h.xv k e),Flat.moves aN.moves hm _ _ hf⟩
 ·rcases hY k hk with q | q
  ·exact h1.xlt k q
  omega
 ·rcases hY k hk with q | q
  ·exact h.xn k e q
  have:=h.nLt e;omega
 rcases hY k hk with q | q
 ·exact h.xv k e q
 have:=h.vLt e;omega
theorem aH.refl (h:eW X w bs bb nv vv g next):aH X bs bb nv vv w w nv vv g next:=⟨h,cR.refl _ _,fun _ hk=>.inl hk,fun _ hk=>.inl hk⟩
theorem aH.trans (p:aH X bs bb rK rN w0 w1 GC Ds g1 n1)(q:aH Y bs bb GC Ds w1 w2 X0 OJ g2 n2):aH Y bs bb rK rN w0 w2 X0 OJ g2 n2:=by
 refine ⟨q.bld,p.mod.trans q.mod (fun i hi=>?_),fun k hk=>(q.nfr k hk).elim (p.nfr k) (fun h=>.inr (cA p.mod.size h)),fun k hk=>(q.vfr k hk).elim (p.vfr k) (fun h=>.inr (cA p.mod.size h))⟩;rcases hi with h | h | h | h
 ·exact .inl (.inl h)
 ·exact .inl (.inr (.inl h))
 ·exact (p.nfr i h).elim (fun e=>.inl (.inr (.inr (.inl e)))) .inr
 exact (p.vfr i h).elim (fun e=>.inl (.inr (.inr (.inr e)))) .inr
theorem aH.fewer (p:aH X bs bb rK rN w0 w1 GC Ds g1 n1)(hY:∀ k,Y k->X k):aH Y bs bb rK rN w0 w1 GC Ds g1 n1:=⟨p.bld.fewer hY,p.mod,p.nfr,p.vfr⟩
theorem aH.fresh (p:aH X bs bb rK rN w0 w1 GC Ds g1 n1)(hb:Below w1.heap.size w1 w2)(hY:∀ k,Y k->X k\/(w1.heap.size<=k/\k<w2.heap.size)):aH Y bs bb rK rN w0 w2 GC Ds g1 n1 :=
 ⟨p.bld.fresh hb hY,p.mod.trans (G:=fun _=>False) (cR.of_below hb) (fun _ f=>f.elim),p.nfr,p.vfr⟩
theorem aH.after (p:aH X bs bb rK rN w0 w1 GC Ds g1 n1)(hb:Below w1.heap.size w1 w2):aH X bs bb rK rN w0 w2 GC Ds g1 n1:=p.fresh hb fun _ h=>.inl h
theorem aH.read (p:aH X bs bb rK rN w0 w1 GC Ds g1 n1)(hs:Src w2 bs)(hm:cR (fun i=>i=bs) w1 w2):aH X bs bb rK rN w0 w2 GC Ds g1 n1:=p.trans (p.bld.readPost hs hm)
theorem aH.own (p:aH X bs bb rK rN w0 w1 GC Ds g1 n1)(hm:cR (fun k=>X k/\w0.heap.size<=k) w1 w2):aH X bs bb rK rN w0 w2 GC Ds g1 n1:=by
 have hx:=fun k (hk:k<w1.heap.size) (hn:¬ X k)=>hm.block k hk (fun q=>hn q.1);have hbl:=p.bld.Gj;have hlt:=p.bld.lt;refine ⟨p.bld.keep (p.bld.src.keep fun i hi=>hx i TcC (fun q=>by have:=p.bld.xlt i q;omega)) hm.size (fun k _ h2 hn=>hx k h2 hn),p.mod.trans hm (fun i hi=>.inr hi.2),p.nfr,p.vfr⟩
theorem aH.move (p:aH X bs bb rK rN w0 w1 GC Ds g1 n1)(hm:cR (fun k=>X k/\w0.heap.size<=k) w1 w2)(hY:∀ k,Y k->X k\/(w1.heap.size<=k/\k<w2.heap.size)):aH Y bs bb rK rN w0 w2 GC Ds g1 n1 :=
 ⟨p.bld.move (hm.mono fun _ q=>q.1) hY,p.mod.trans hm (fun _i hi=>.inr hi.2),p.nfr,p.vfr⟩
theorem aH.put (p:aH X bs bb rK rN w0 w1 GC Ds g1 n1)(b i:Nat)(u:Value)(hb:X b)(h0:w0.heap.size<=b):aH X bs bb rK rN w0 (w1.setCell (b,i) u) GC Ds g1 n1 :=
 p.own ((cR.refl _ _).setCell (p:=⟨b,i,none⟩) (.inl ⟨hb,h0⟩) _)
theorem aH.drewN (p:aH X bs bb rK rN w0 w1 GC Ds g1 n1)(n:Nat):aH X bs bb rK rN w0 (w1.drewN n) GC Ds g1 n1:=p.own ((cR.refl _ _).drewN _)
theorem aH.loc (p:aH Y bs bb nv vv w w1 GC Ds g1 n1)(h:eW X w bs bb nv vv g next)(hk:X k):w1.heap[k]?=w.heap[k]?:=p.mod.block k (h.xlt k hk).2 (h.xfp hk)
theorem aH.loc' (p:aH Y bs bb nv vv w w1 GC Ds g1 n1)(h:eW X w bs bb nv vv g next)(hk:okB X bb nv vv k)(hl:k<w.heap.size):w1.heap[k]?=w.heap[k]?:=p.mod.block k hl (h.okfp hk)
end
variable {X ok:Nat->Prop}{w w1 w2:World}{bs bb N sz bytes gb cap:Nat}{nv vv z:Value}{g:af}{next:List Int}{p:ay}{α:Type}{t e:TypeId}{i0:TypeInfo}{u:List Value}
theorem eW.pushVol {v1:Value}(h:eW X w bs bb nv vv g next)(ho:bF aN 6 68 (bb+1) (fun b=>okB X bb nv vv b/\b<N) w1 v1 (g.F9++[p]))(hN:N<=w.heap.size)(hg:w.grownBy w1 vv.ownBlock)(hat:v1.ownBlock=vv.ownBlock\/v1.ownBlock=some w.heap.size) :
  aH X bs bb nv vv w (w1.setCell (Tac bb 8) v1) nv v1 { g with F9:=g.F9++[p] } next:=by
 have hbl:=h.Gj;have hlt:=h.lt;have hz:=hg.size;have sA:∀ k,k<w.heap.size->vv.ownBlock≠some k->k≠bb->(w1.setCell (Tac bb 8) v1).heap[k]?=w.heap[k]?:=fun k hk hn hb=>(bw _ _ _ _ hb).trans (hg.block k hk (fun e=>hn e.symm));have hne:∀ k,vv.ownBlock=some k->k≠bb:=fun k e=>by have:=h.vLt e;omega
 have XV:vv.ownBlock≠some bb:=fun e=>hne bb e rfl
 have gw:∀ b,b<w.heap.size->okB X bb nv vv b->okB X bb nv v1 b:=fun b hb ho=>⟨ho.1,ho.2.1,fun e=>by
  rcases hat with q | q
  ·exact ho.2.2.1 (q ▸ e)
  rw [q] at e;injection e with e;omega,ho.2.2.2⟩
 have TN:∀ k,v1.ownBlock=some k->vv.ownBlock=some k\/w.heap.size<=k:=fun k e=>by
  rcases hat with q | q
  ·exact .inl (q ▸ e)
  rw [q] at e;injection e with e;exact .inr TcC
 have hm:Mv (okB X bb nv vv) (okB X bb nv v1) w (w1.setCell (Tac bb 8) v1):=⟨by simpa [World.setCell] using hz,fun b hb ho=>⟨gw b hb ho,sA b hb ho.2.2.1 Tdj⟩⟩;have hw1:w1.heap[bb]?=w.heap[bb]?:=hg.block bb hbl (fun e=>XV e.symm);refine ⟨⟨h.src.keep fun i hi=>sA i TcC (fun e=>by have:=h.vLt e;omega) TcC,hlt,?_,?_,?_,fun k e e'=>?_,fun k hx=>⟨(h.xlt k hx).1,?_⟩,h.xn,fun k e=>?_⟩,?_,fun _ hk=>.inl hk,TN⟩
 ·obtain ⟨tv,dv,hv,e,h1,h2,h3⟩:=h.blk;refine ⟨tv,dv,hv,?_,(ck.moves aF.moves).mv hm h1,(ck.moves aO.moves).mv hm h2,h3⟩;exact block_setCell (cs:=#[_,_,_,_,_,_,_,_,_,_,_]) (i:=8) _ (hw1.trans e)
 ·refine aC h.ownN fun k e=>sA k (h.nLt e).2 (h.ne k e) (by have:=h.nLt e;omega)
 ·obtain ⟨cs,hr,hf⟩:=ho;refine ⟨cs,aC hr fun k e=>?_,Flat.moves aN.moves ⟨TcR,fun b hb ho=>⟨?_,?_⟩⟩ _ _ hf⟩
  ·refine bw _ _ _ _ (show k≠bb from ?_);rcases TN k e with q | q
   ·exact hne k q
   omega
  ·exact gw b (cC ho.2 hN) ho.1
  exact bw _ _ _ _ (show b≠bb from by have:=ho.1.1;omega)
 ·rcases TN k e' with q | q
  ·exact h.ne k e q
  have:=h.nLt e;omega
 ·have:=(h.xlt k hx).2;simp [World.setCell];omega
 ·rcases TN k e with q | q
  ·exact h.xv k q
  exact fun hx=>by have:=(h.xlt k hx).2;omega
 refine cR.setCell (p:=⟨bb,8,none⟩) ⟨hg.os,hg.tape,hg.output,hg.size,fun k hk hn=>hg.block k hk (fun e=>hn (.inr (.inr (.inr e.symm))))⟩ (.inl (.inr (.inl rfl))) _
structure jN {α:Type}(V:jx α)(sz:Nat)(e:TypeId)(B:Nat)(ok:Nat->Prop)(w:World)(v:Value)(l:List α)(p:α)(u:List Value)(gb cap:Nat)(w':World):Prop where
 own:bF V sz e B ok w' (.slice (some gb) (l.length+1) cap) (l++[p])
 grown:w.grownBy w' v.ownBlock
 at':v.ownBlock=some gb\/gb=w.heap.size
 last:∀ (j:Nat) (y:Value),u[j]?=some y->w'.cell? (gb,l.length*sz+j)=some y
theorem nS {V:jx α}(hV:Moves V){ty:TypeId}(hu:prog.underlying t=some (.slice e))(hi:prog.info? e=some i0)(hz:i0.zero=some z)(hsize:i0.size=sz)(hby:i0.bytes=bytes)(hzs:z.cells.size=sz)(hsz:0<sz)(Hv:bytes<=1000)
  {w:World} (B:Nat) (ok:Nat->Prop) (v:Value) (l:List α) (p:α) (hown:bF V sz e B ok w v l) (g c:Nat) (u:List Value)
  (ez:u.length=sz) (huv:V ok w u p) (hu1:∀ z∈u,z.oneCell'=true) (hc:∀ (j:Nat) (y:Value),u[j]?=some y->w.cell? (g,j)=some y) (hl:l.length<=1000000) (hB:B<=w.heap.size)
  (gw:∀ b,v.ownBlock=some b->¬ ok b) :
  ∃ gb cap w',(Builtin.append_ #[t,t] ty #[v,.slice (some g) 1 c]).run prog w=.ok (.slice (some ⟨gb,0,none⟩) (l.length+1) cap) w'/\jN V sz e B ok w v l p u gb cap w':=by
 obtain ⟨cs,hrow,hf⟩:=hown;obtain ⟨v',w',hr,ho',hgr,_,hat⟩:=run_append_own_at (P:=prog) w B t ty e i0 z sz bytes hu hi hz hsize hby hzs hsz v l.length cs hrow ⟨g,0,none⟩ 1 c u TcC (fun j y hy=>by
  rw [iz,eJ];exact hc j y hy) hu1 TcN TeH hB
 have hm:Mv ok ok w w':=⟨hgr.size,fun b hb gR=>⟨gR,hgr.block b hb (fun e=>gw b e.symm gR)⟩⟩;have hcl:cs.length=l.length*sz:=Flat.length _ _ hf;have h1:bF V sz e B ok w' v' (l++[p]):=⟨cs++u,by rw [cD];exact ho',(Flat.one ez (hV.mv hm huv) hu1).append _ _ (Flat.moves hV hm _ _ hf)⟩;have ho2:=ho'.2;rcases ho2 with ⟨_,hn⟩ | ⟨gb,cap,cur,rfl,hb,hg,vr,hcm,hcs,ht⟩
 ·omega
 refine ⟨gb,cap,w',hr,h1,hgr,?_,fun j y hy=>?_⟩
 ·rcases hat with q | q
  ·exact .inl q.symm
  injection q with q;exact .inr q
 have hj:j<sz:=by rw [<- ez];exact (List.getElem?_eq_some_iff.1 hy).1
 rw [ho'.cellAt (l.length*sz+j) (by rw [Oy];omega),Cp TcC,hcl,Nat.add_sub_cancel_left];exact hy
theorem dX {V:jx α}(hV:Moves V)(hu:prog.underlying t=some (.slice e))(hi:prog.info? e=some i0)(hz:i0.zero=some z)(hsize:i0.size=sz)(hby:i0.bytes=bytes)(hzs:z.cells.size=sz)(hsz:0<sz)(Hv:bytes<=1000)
  {w:World} {ops:Array Oper} {rest:List Oper} {o:Oper} {a:Act} {Q:Exit->Act->World->Prop} (hgd:o.guard=none) (s x:Operand)
  (ho:o.op=.call { callee:=.builtin .append,args:=#[s,x],argTypes:=#[t,t] })
  (B:Nat) (ok:Nat->Prop) (v:Value) (l:List α) (p:α) (hs:a.eval s=v) (hown:bF V sz e B ok w v l) (g c:Nat) (u:List Value) (hx:a.eval x=.slice (some g) 1 c)
  (ez:u.length=sz) (huv:V ok w u p) (hu1:∀ z∈u,z.oneCell'=true) (hc:∀ (j:Nat) (y:Value),u[j]?=some y->w.cell? (g,j)=some y) (hl:l.length<=1000000) (hB:B<=w.heap.size)
  (gw:∀ b,v.ownBlock=some b->¬ ok b)
  (h:∀ gb cap w',jN V sz e B ok w v l p u gb cap w'->wpList prog ops Q rest (a.put o.dst (.slice (some ⟨gb,0,none⟩) (l.length+1) cap)) w'):wpList prog ops Q (o :: rest) a w:=by
 refine wpList_plain hgd fun K hK=>?_;obtain ⟨gb,cap,w',hr,hp⟩:=nS (ty:=o.type) hV hu hi hz hsize hby hzs hsz Hv B ok v l p hown g c u ez huv hu1 hc hl hB gw;unfold Oper.wp execOp;simp only [ho,resolve,invoke,builtin,Sem.run_bind,Sem.run_pure,ud,tS,iu,List.map_nil,hs,hx,hr];exact hK _ _ (h gb cap w' hp)
theorem mU {V:jx α}(hV:Moves V)(hu:prog.underlying t=some (.slice e))(hi:prog.info? e=some i0)(hz:i0.zero=some z)(hsize:i0.size=sz)(hby:i0.bytes=bytes)(hzs:z.cells.size=sz)(hsz:0<sz)(Hv:bytes<=1000)
  {o:Oper} {dd:Tmp} {a:Act} {w:World} {K:Act->World->Prop} {Q:Exit->Act->World->Prop}
  (hdd:o.dst=some dd) (s x:Operand) (hop:o.op=Op.call { callee:=Callee.builtin Builtin.append,args:=#[s,x],argTypes:=#[t,t] })
  (B:Nat) (ok:Nat->Prop) (v:Value) (l:List α) (p:α) (hs:a.eval s=v) (hown:bF V sz e B ok w v l) (g c:Nat) (u:List Value) (hx:a.eval x=.slice (some g) 1 c)
  (ez:u.length=sz) (huv:V ok w u p) (hu1:∀ z∈u,z.oneCell'=true) (hc:∀ (j:Nat) (y:Value),u[j]?=some y->w.cell? (g,j)=some y) (hl:l.length<=1000000) (hB:B<=w.heap.size)
  (gw:∀ b,v.ownBlock=some b->¬ ok b)
  (hK:∀ gb cap w',jN V sz e B ok w v l p u gb cap w'->K (a.put (some dd) (.slice (some ⟨gb,0,none⟩) (l.length+1) cap)) w'):Oper.wp prog o a w K Q:=by
 obtain ⟨gb,cap,w',hr,hp⟩:=nS (ty:=o.type) hV hu hi hz hsize hby hzs hsz Hv B ok v l p hown g c u ez huv hu1 hc hl hB gw;unfold Oper.wp;simp [execOp,hop,resolve,invoke,builtin,hs,hx,hr,Result.andThen];show K (a.put o.dst _) w';rw [hdd];exact hK gb cap w' hp
theorem eW.okNew (h:eW X w bs bb nv vv g next){k:Nat}(hk:w.heap.size<=k):okB X bb nv vv k :=
 ⟨by have:=h.Gj;omega,fun e=>by have:=h.nLt e;omega,fun e=>by have:=h.vLt e;omega,fun hx=>by have:=h.xlt k hx;omega⟩
theorem ck.one {V:jx α}{b:Nat}{x:α}(hb:w.heap[b]?=some (.cells u.toArray t (0,0)))(ho:ok b)(hu:u.length=sz)(hv:V ok w u x):ck V sz ok w [.slice (some b) 1 1] [x]:=by
 refine ⟨some ⟨b,0,none⟩,1,rfl,TcD,TcC,fun _=>⟨b,0,rfl,aq hb,ho,fun i y hy=>?_⟩⟩
 match i,hy with
 | 0,hy =>
  simp at hy;subst hy;refine ⟨u,hu,hv,fun j z hz=>?_⟩;simp [World.cell?,hb,hz]
 | i+1,hy=>simp at hy
theorem ck.nil {V:jx α}:ck V sz ok w [.slice none 0 0] []:=⟨none,0,rfl,TcD,TcC,fun h=>absurd h TcD⟩
theorem eW.ready (h:eW X w bs bb nv vv g next)(hp:aN (okB X bb nv vv) w u p)(w1:World)(hb:Below w.heap.size w w1) :
  bF aN 6 68 (bb+1) (fun b=>okB X bb nv vv b/\b<w.heap.size) w1 vv g.F9/\aN (fun b=>okB X bb nv vv b/\b<w.heap.size) w1 u p:=by
 have hm:Mv (okB X bb nv vv) (fun b=>okB X bb nv vv b/\b<w.heap.size) w w1:=⟨hb.size,fun b hb' ho=>⟨⟨ho,hb'⟩,hb.block b hb'⟩⟩;obtain ⟨cs,ho,hf⟩:=h.ownV;exact ⟨⟨cs,eF ho fun k _ h2=>hb.block k h2,Flat.moves aN.moves hm _ _ hf⟩,aN.moves.mv hm hp⟩
theorem H8 :∀ b,vv.ownBlock=some b->¬ (okB X bb nv vv b/\b<N):=fun _ e ho=>ho.1.2.2.1 e
theorem eW.pushKeeps (h:eW X w bs bb nv vv g next)(hb:Below w.heap.size w w1)(hp:jN aN 6 68 (bb+1) (fun b=>okB X bb nv vv b/\b<N) w1 vv g.F9 p u gb cap w2) :
  w2.heap[bb]?=w.heap[bb]?/\∀ k,X k->w2.heap[k]?=w.heap[k]?:=by
 have hbl:=h.Gj;refine ⟨(hp.grown.block bb (cC hbl hb.size) (fun e=>by have:=h.vLt e.symm;omega)).trans (hb.block bb hbl),fun k hk=>?_⟩;have hkl:=(h.xlt k hk).2;exact (hp.grown.block k (cC hkl hb.size) (fun e=>h.xv k e.symm hk)).trans (hb.block k hkl)
theorem aH.push {w0:World}{rK rN:Value}(h:aH X bs bb rK rN w0 w nv vv g next)(hb:Below w.heap.size w w1)(hp:jN aN 6 68 (bb+1) (fun b=>okB X bb nv vv b/\b<N) w1 vv g.F9 p u gb cap w2)(hN:N<=w.heap.size) :
  aH X bs bb rK rN w0 (w2.setCell (Tac bb 8) (.slice (some gb) (g.F9.length+1) cap)) nv (.slice (some gb) (g.F9.length+1) cap) { g with F9:=g.F9++[p] } next:=by
 have h1:=h.after hb;refine h1.trans (h1.bld.pushVol hp.own (cA hN hb.size) hp.grown ?_);rcases hp.at' with q | q
 ·exact .inl q.symm
 exact .inr (by rw [q];rfl)
def Tai :Tab #[.string ⟨#[]⟩,.int .u64 0,.bool false,.bool false,.slice none 0 0,.slice none 0 0]:=⟨⟩
theorem zT:(prog.info? 68).map (fun i=>(i.zero,i.size,i.bytes))=some (some (.agg Tai),6,80):=by kernel_rfl
def Tar :Tab #[.int .i64 0,.int .i64 0,.int .i64 0,.slice none 0 0,.int .i64 0,.slice none 0 0,.string ⟨#[]⟩,.string ⟨#[]⟩,.int .i64 0,.int .i64 0,.int .i64 0]:=⟨⟩
theorem Am:(prog.info? 114).map (fun i=>(i.zero,i.size,i.bytes))=some (some (.agg Tar),11,136):=by kernel_rfl
theorem kL:(prog.info? 53).map (fun i=>(i.zero,i.size,i.bytes))=some (some (.agg Taq),3,32):=by kernel_rfl
end Go.Proofs.YtaagglbgohjldaaGreatDoor
