/- Lemmas: MkD, Flo, MkI. -/
import Derived.Test.YtillcmhjhajimaaGreatDoorQj01
import Derived.Deep.RegionLaw
import Derived.Deep.RegionHeld3
set_option maxRecDepth 100000
set_option maxHeartbeats 32000000
set_option linter.all false
namespace Go.Proofs.YtillcmhjhajimaaGreatDoor
open Go.Proofs.Tryz
open Go.RowKit
theorem TeG{p:Prop}(h:p:=by have:(l.length+1)*bytes<=2000000*1000:=ue (by omega) Hv;omega):p:=h
theorem wF{α:Type}{V:jx α}(hV:Moves V){sz bytes:Nat}{t e:TypeId}{i0:TypeInfo}{z:Value}(hu:prog.underlying t=some (.slice e))(hi:prog.info? e=some i0)(hz:i0.zero=some z)(hsize:i0.size=sz)(hby:i0.bytes=bytes)(hzs:z.cells.size=sz)(hsz:0<sz)(Hv:bytes<=1000)
  {w:World} {ops:Array Oper} {rest:List Oper} {o:Oper} {a:Act} {Q:Exit->Act->World->Prop} (hgd:o.guard=none) (s x:Operand)
  (ho:o.op=.call { callee:=.builtin .append,args:=#[s,x],argTypes:=#[t,t] })
  (B:Nat) (ok:Nat->Prop) (v:Value) (l:List α) (p:α) (hs:a.eval s=v) (hown:bF V sz e B ok w v l) (g c:Nat) (u:List Value) (hx:a.eval x=.slice (some g) 1 c)
  (ez:u.length=sz) (huv:V ok w u p) (hu1:∀z∈u,z.oneCell'=true) (hc:∀(j:Nat) (y:Value),u[j]?=some y->w.cell? (g,j)=some y) (hl:l.length<=1000000) (hB:B<=w.heap.size)
  (gw:∀b,v.ownBlock=some b->¬ok b)
  (h:∀v' w',bF V sz e B ok w' v' (l++[p])->w.grownBy w' v.ownBlock->wpList prog ops Q rest (a.put o.dst v') w'):wpList prog ops Q (o :: rest) a w:=by
 obtain⟨cs,hrow,hf⟩:=hown;refine tE w hgd s x t ho B e i0 z sz bytes hu hi hz hsize hby hzs hsz v l.length cs hs hrow ⟨g,0,none⟩ 1 c u hx TcN (fun j y hy=>?_) hu1 TcW TeG hB (fun v' w' ho' hg _=>?_)
 ·rw[iz,eJ];exact hc j y hy
 have hm:Mv ok ok w w':=⟨hg.size,fun b hb gR=>⟨gR,hg.block b hb (fun e=>gw b e.symm gR)⟩⟩
 refine h v' w' ⟨cs++u,?_,(Flat.one ez (hV.mv hm huv) hu1).append _ _ (Flat.moves hV hm _ _ hf)⟩ hg;rw[cD];exact ho'
def iQ:List ByteArray:=[⟨#[99,111,108,100]⟩,⟨#[102,97,115,116]⟩,⟨#[115,105,116,101,61,49]⟩,⟨#[115,105,116,101,61,50]⟩]
def FH(b:Nat)(w:World)(e:Ending)(w':World):Prop:=∃v l,e=.returned v/\List.Sublist l iQ/\b6 aF 1 (fun k=>w.heap.size<=k) w' [v] l/\Src w' b/\cR (fun i=>i=b) w w'
theorem o5:(prog.info? 9).map (fun i=>(i.zero,i.size,i.bytes))=some (some (.string ⟨#[]⟩),1,16):=by kernel_rfl
theorem TcR{p:Prop}(h:p:=by go_num):p:=h
theorem Tc6{p:Prop}(h:p:=by simpa using hy):p:=h
theorem qY(b:Nat)(w:World)(h:Src w b):Calls prog 12 #[.pointer (some b)] w (FH b w):=by
 have cX:=h.lt;go_enter func12,ntmps12;go_wp2
 go_loopw[3,5] (fun o i wr=>∃(k:Nat) (l:List ByteArray),k<=4/\i=.int .i64 k/\List.Sublist l (iQ.take k)/\bF aF 1 9 (w.heap.size+1) (fun _=>False) wr o l/\Src wr b/\cR (fun i=>i=b) w wr/\wr.heap[w.heap.size]?=some (.cells (iQ.map Value.string).toArray 9 (0,0))) (fun _ i _=>4-(intOf i).toNat)
 case atStart =>
  refine⟨0,[],TcN,rfl,List.Sublist.slnil,⟨[],gS _ _ _ 1,rfl⟩,h.keep fun i hi=>cj _ _ _ TcN,cR.of_below ((bj _ _).alloc (bk _) _),?_⟩;rw[b9];rfl
 obtain⟨k,l,hk,rfl,u9,hown,QG,oY,hblk⟩:=hrel;have HS:=aa u9;clear u9;have HB:=aa hblk;clear hblk;by_cases hlt:k<4
 ·have hd4:decide ((k:Int)<4)=true:=by simp;omega
  obtain⟨x,hx⟩:=aj iQ k (by simpa[iQ]using hlt);have HX:=aa hx;clear hx;go_wp2_with fail;refine(bY b _ _ TcN TcN QG).mono ?_;rintro e w1 ⟨v,rfl,hv1,hv2,hs1,hm1⟩;have cU:=aa ((hm1.block w.heap.size (aq HB.o) TcN).trans HB.o);have own1:bF aF 1 9 (w.heap.size+1) (fun _=>False) w1 u3 l:=by
   obtain⟨cs,ho,hf⟩:=hown;exact⟨cs,eF ho fun i h1 h2=>hm1.block i h2 TcN,Flat.moves aF.moves ⟨hm1.size,fun _ _ f=>f.elim⟩ _ _ hf⟩
  have M1:=oY.trans hm1 (fun i hi=>.inl hi);by_cases hv:v=0
  ·subst hv;obtain⟨i0,hi,hz0,hz1,hz2⟩:=gg o5;have hl4:l.length<=4:=cA HS.o.length_le TcS;have HI:=aa hi;clear hi;have H0:=aa hz0;clear hz0;have H1:=aa hz1;clear hz1;have H2:=aa hz2;clear hz2;have cx:w1.cell? (w.heap.size,k)=some (.string x):=by
    have:=HX.o;simp[World.cell?,cU.o,this]
   have TL:w.heap.size<w1.heap.size:=aq cU.o;go_wp2_with(at_builtin;refine wF aF.moves underlying27 HI.o H0.o H1.o H2.o rfl TcQ TcQ rfl _ _ rfl (w.heap.size+1) (fun _=>False) _ l x rfl ?c1 w1.heap.size 1 [.string x] rfl rfl rfl ?c2 ?c3 TcN ?c4 (fun _ _ f=>f) ?_)
   case c1 =>
    obtain⟨cs,ho,hf⟩:=own1;exact⟨cs,eF ho fun i h1 h2=>cj _ _ _ h2,Flat.moves aF.moves ⟨TcO,fun _ _ f=>f.elim⟩ _ _ hf⟩
   case c2 =>
    intro z hz;simp at hz;subst hz;rfl
   case c3 =>
    intro j y hy;exact aD rfl Tc6
   case c4=>simp;omega
   intro v' w' hown' hg;have M2:=(M1.alloc (.cells #[.string x] 9)).trans (G:=fun i=>w.heap.size+1<=i) ⟨hg.os,hg.tape,hg.output,hg.size,fun i hi hn=>hg.block i hi (fun e=>hn (by obtain⟨cs,ho,_⟩:=own1;exact(ho.lt i e.symm).1))⟩ (fun i hi=>.inr TcN);have cm:w'.heap[w.heap.size]?=some (.cells (iQ.map Value.string).toArray 9 (0,0)):=by
    rw[hg.block w.heap.size TcS (fun e=>by obtain⟨cs,ho,_⟩:=own1;have:=(ho.lt _ e.symm).1;omega),cj _ _ _ TL];exact cU.o
   have S2:Src w' b:=Src.keep hs1 fun i hi=>by
    rw[hg.block i TcS (fun e=>by obtain⟨cs,ho,_⟩:=own1;have:=(ho.lt _ e.symm).1;omega),cj _ _ _ TcN]
   have TM:=aa cm;clear cm;go_wp2;go_roundw;exact⟨k+1,l++[x],TcN,TcR,by rw[take_snoc' _ _ _ HX.o];exact HS.o.append (List.Sublist.refl _),hown',S2,M2,TM.o⟩;simp[intOf];omega
  have XV:(v==0)=false:=by simpa using hv
  go_wp2;go_roundw;exact⟨k+1,l,TcN,TcR,HS.o.trans (List.take_sublist_take_left TcN),own1,hs1,M1,cU.o⟩;simp[intOf];omega
 have hd4:decide ((k:Int)<4)=false:=by simp;omega
 go_wp2;go_ret;refine⟨_,l,rfl,?_,hown.rd aF.moves TcQ (fun _ _ f=>f.elim) (fun g hg=>?_),QG,oY⟩
 ·rw[show iQ=iQ.take k from(jz (by simp[iQ];omega)).symm];exact HS.o
 obtain⟨cs,ho,_⟩:=hown;have:=ho.lt g hg;omega
section
variable {X Y:Nat->Prop}{w w0 w1 w2:World}{bs bb:Nat}{nv vv rK rN GC Ds X0 OJ:Value}{g g1 g2:af}{next n1 n2:List Int}
variable {k:Nat}
theorem eW.nfp(h:eW X w bs bb nv vv g next)(hk:w.heap.size<=k):¬QD bs bb nv vv k:=by
 rintro(rfl|rfl|e|e)
 ·have:=h.lt;have:=h.Gj;omega
 ·have:=h.Gj;omega
 ·have:=(h.nLt e).2;omega
 have:=(h.vLt e).2;omega
theorem eW.xfp(h:eW X w bs bb nv vv g next)(hk:X k):¬QD bs bb nv vv k:=by
 have:=h.xlt k hk;rintro(rfl|rfl|e|e)
 ·have:=h.lt;omega
 ·omega
 ·exact h.xn k e hk
 exact h.xv k e hk
theorem eW.okfp(h:eW X w bs bb nv vv g next)(hk:okB X bb nv vv k):¬QD bs bb nv vv k:=by
 rintro(rfl|rfl|e|e)
 ·have:=h.lt;have:=hk.1;omega
 ·have:=hk.1;omega
 ·exact hk.2.1 e
 exact hk.2.2.1 e
theorem eW.sets(h:eW X w bs bb nv vv g next)(hY:∀k,Y k->X k\/(bb<k/\k<w.heap.size/\¬QD bs bb nv vv k))(hm:Mv (okB X bb nv vv) (okB Y bb nv vv) w w):eW Y w bs bb nv vv g next:=by
 refine⟨h.src,h.lt,?_,h.ownN,?_,h.ne,fun k hk=>?_,fun k e hk=>?_,fun k e hk=>?_⟩
 ·obtain⟨tv,dv,hv,e,h1,h2,h3⟩:=h.blk;exact⟨tv,dv,hv,e,(b6.moves aF.moves).mv hm h1,(b6.moves aO.moves).mv hm h2,h3⟩
 ·obtain⟨cs,ho,hf⟩:=h.ownV;exact⟨cs,ho,Flat.moves aN.moves hm _ _ hf⟩
 ·rcases hY k hk with h1|h1
  ·exact h.xlt k h1
  exact⟨h1.1,h1.2.1⟩
 ·rcases hY k hk with h1|h1
  ·exact h.xn k e h1
  exact h1.2.2 (.inr (.inr (.inl e)))
 rcases hY k hk with h1|h1
 ·exact h.xv k e h1
 exact h1.2.2 (.inr (.inr (.inr e)))
theorem eW.fewer(h:eW X w bs bb nv vv g next)(hY:∀k,Y k->X k):eW Y w bs bb nv vv g next :=
 h.sets (fun k hk=>.inl (hY k hk)) ⟨bk _,fun _ _ ho=>⟨⟨ho.1,ho.2.1,ho.2.2.1,fun hy=>ho.2.2.2 (hY _ hy)⟩,rfl⟩⟩
theorem eW.fresh(h:eW X w bs bb nv vv g next)(hb:Below w.heap.size w w1)(hY:∀k,Y k->X k\/(w.heap.size<=k/\k<w1.heap.size)):eW Y w1 bs bb nv vv g next:=by
 have hbl:=h.Gj;have h1:=h.below hb;have hm:Mv (okB X bb nv vv) (okB Y bb nv vv) w w1:=⟨hb.size,fun b gO ho=>⟨⟨ho.1,ho.2.1,ho.2.2.1,fun hy=>(hY b hy).elim ho.2.2.2 TcN⟩,hb.block b gO⟩⟩;refine⟨h1.src,h.lt,?_,h1.ownN,?_,h.ne,fun k hk=>?_,fun k e hk=>?_,fun k e hk=>?_⟩
 ·obtain⟨tv,dv,hv,e,q1,q2,q3⟩:=h.blk;exact⟨tv,dv,hv,(hb.block bb hbl).trans e,(b6.moves aF.moves).mv hm q1,(b6.moves aO.moves).mv hm q2,q3⟩
 ·obtain⟨cs,ho,hf⟩:=h.ownV;exact⟨cs,eF ho fun k _ h2=>hb.block k h2,Flat.moves aN.moves hm _ _ hf⟩
 ·rcases hY k hk with q|q
  ·exact h1.xlt k q
  omega
 ·rcases hY k hk with q|q
  ·exact h.xn k e q
  have:=h.nLt e;omega
 rcases hY k hk with q|q
 ·exact h.xv k e q
 have:=h.vLt e;omega
theorem eW.move(h:eW X w bs bb nv vv g next)(hm0:cR X w w1)(hY:∀k,Y k->X k\/(w.heap.size<=k/\k<w1.heap.size)):eW Y w1 bs bb nv vv g next:=by
 have hbl:=h.Gj;have hlt:=h.lt;have h1:=h.keep (w':=w1) (h.src.keep fun i hi=>hm0.block i TcN (fun q=>by have:=h.xlt i q;omega)) hm0.size (fun k _ h2 hn=>hm0.block k h2 hn);have hm:Mv (okB X bb nv vv) (okB Y bb nv vv) w w1:=⟨hm0.size,fun b gO ho=>⟨⟨ho.1,ho.2.1,ho.2.2.1,fun hy=>(hY b hy).elim ho.2.2.2 TcN⟩,hm0.block b gO ho.2.2.2⟩⟩;refine⟨h1.src,h.lt,?_,h1.ownN,?_,h.ne,fun k hk=>?_,fun k e hk=>?_,fun k e hk=>?_⟩
 ·obtain⟨tv,dv,hv,e,q1,q2,q3⟩:=h.blk;exact⟨tv,dv,hv,(hm0.block bb hbl (fun q=>by have:=h.xlt bb q;omega)).trans e,(b6.moves aF.moves).mv hm q1,(b6.moves aO.moves).mv hm q2,q3⟩
 ·have mb:=fun k e=>h.vLt (k:=k) e
  obtain⟨cs,ho,hf⟩:=h.ownV;exact⟨cs,aC ho fun k e=>hm0.block k (mb k e).2 (h.xv k e),Flat.moves aN.moves hm _ _ hf⟩
 ·rcases hY k hk with q|q
  ·exact h1.xlt k q
  omega
 ·rcases hY k hk with q|q
  ·exact h.xn k e q
  have:=h.nLt e;omega
 rcases hY k hk with q|q
 ·exact h.xv k e q
 have:=h.vLt e;omega
theorem aH.refl(h:eW X w bs bb nv vv g next):aH X bs bb nv vv w w nv vv g next:=⟨h,cR.refl _ _,fun _ hk=>.inl hk,fun _ hk=>.inl hk⟩
theorem aH.trans(p:aH X bs bb rK rN w0 w1 GC Ds g1 n1)(q:aH Y bs bb GC Ds w1 w2 X0 OJ g2 n2):aH Y bs bb rK rN w0 w2 X0 OJ g2 n2:=by
 refine⟨q.bld,p.mod.trans q.mod (fun i hi=>?_),fun k hk=>(q.nfr k hk).elim (p.nfr k) (fun h=>.inr (cA p.mod.size h)),fun k hk=>(q.vfr k hk).elim (p.vfr k) (fun h=>.inr (cA p.mod.size h))⟩;rcases hi with h|h|h|h
 ·exact .inl (.inl h)
 ·exact .inl (.inr (.inl h))
 ·exact(p.nfr i h).elim (fun e=>.inl (.inr (.inr (.inl e)))) .inr
 exact(p.vfr i h).elim (fun e=>.inl (.inr (.inr (.inr e)))) .inr
theorem aH.fewer(p:aH X bs bb rK rN w0 w1 GC Ds g1 n1)(hY:∀k,Y k->X k):aH Y bs bb rK rN w0 w1 GC Ds g1 n1:=⟨p.bld.fewer hY,p.mod,p.nfr,p.vfr⟩
theorem aH.fresh(p:aH X bs bb rK rN w0 w1 GC Ds g1 n1)(hb:Below w1.heap.size w1 w2)(hY:∀k,Y k->X k\/(w1.heap.size<=k/\k<w2.heap.size)):aH Y bs bb rK rN w0 w2 GC Ds g1 n1 :=
 ⟨p.bld.fresh hb hY,p.mod.trans (G:=fun _=>False) (cR.of_below hb) (fun _ f=>f.elim),p.nfr,p.vfr⟩
theorem aH.after(p:aH X bs bb rK rN w0 w1 GC Ds g1 n1)(hb:Below w1.heap.size w1 w2):aH X bs bb rK rN w0 w2 GC Ds g1 n1:=p.fresh hb fun _ h=>.inl h
theorem aH.read(p:aH X bs bb rK rN w0 w1 GC Ds g1 n1)(hs:Src w2 bs)(hm:cR (fun i=>i=bs) w1 w2):aH X bs bb rK rN w0 w2 GC Ds g1 n1:=p.trans (p.bld.readPost hs hm)
theorem aH.own(p:aH X bs bb rK rN w0 w1 GC Ds g1 n1)(hm:cR (fun k=>X k/\w0.heap.size<=k) w1 w2):aH X bs bb rK rN w0 w2 GC Ds g1 n1:=by
 have hx:=fun k (hk:k<w1.heap.size) (hn:¬X k)=>hm.block k hk (fun q=>hn q.1);have hbl:=p.bld.Gj;have hlt:=p.bld.lt;refine⟨p.bld.keep (p.bld.src.keep fun i hi=>hx i TcN (fun q=>by have:=p.bld.xlt i q;omega)) hm.size (fun k _ h2 hn=>hx k h2 hn),p.mod.trans hm (fun i hi=>.inr hi.2),p.nfr,p.vfr⟩
theorem aH.move(p:aH X bs bb rK rN w0 w1 GC Ds g1 n1)(hm:cR (fun k=>X k/\w0.heap.size<=k) w1 w2)(hY:∀k,Y k->X k\/(w1.heap.size<=k/\k<w2.heap.size)):aH Y bs bb rK rN w0 w2 GC Ds g1 n1 :=
 ⟨p.bld.move (hm.mono fun _ q=>q.1) hY,p.mod.trans hm (fun _i hi=>.inr hi.2),p.nfr,p.vfr⟩
theorem aH.put(p:aH X bs bb rK rN w0 w1 GC Ds g1 n1)(b i:Nat)(u:Value)(hb:X b)(h0:w0.heap.size<=b):aH X bs bb rK rN w0 (w1.setCell (b,i) u) GC Ds g1 n1 :=
 p.own ((cR.refl _ _).setCell (p:=⟨b,i,none⟩) (.inl ⟨hb,h0⟩) _)
theorem aH.drewN(p:aH X bs bb rK rN w0 w1 GC Ds g1 n1)(n:Nat):aH X bs bb rK rN w0 (w1.drewN n) GC Ds g1 n1:=p.own ((cR.refl _ _).drewN _)
theorem aH.loc(p:aH Y bs bb nv vv w w1 GC Ds g1 n1)(h:eW X w bs bb nv vv g next)(hk:X k):w1.heap[k]?=w.heap[k]?:=p.mod.block k (h.xlt k hk).2 (h.xfp hk)
theorem aH.loc'(p:aH Y bs bb nv vv w w1 GC Ds g1 n1)(h:eW X w bs bb nv vv g next)(hk:okB X bb nv vv k)(hl:k<w.heap.size):w1.heap[k]?=w.heap[k]?:=p.mod.block k hl (h.okfp hk)
end
variable {X:Nat->Prop}{w w1 w2:World}{bs bb N sz bytes gb:Nat}{nv vv z:Value}{g:af}{p:ay}{α:Type}{t e:TypeId}{i0:TypeInfo}{u:List Value}
theorem eW.pushVol{v1:Value}{next:List Int}(h:eW X w bs bb nv vv g next)(ho:bF aN 6 57 (bb+1) (fun b=>okB X bb nv vv b/\b<N) w1 v1 (g.F9++[p]))(hN:N<=w.heap.size)(hg:w.grownBy w1 vv.ownBlock)(hat:v1.ownBlock=vv.ownBlock\/v1.ownBlock=some w.heap.size) :
  aH X bs bb nv vv w (w1.setCell (Tac bb 8) v1) nv v1 { g with F9:=g.F9++[p] } next:=by
 have hbl:=h.Gj;have hlt:=h.lt;have hz:=hg.size;have sA:∀k,k<w.heap.size->vv.ownBlock≠some k->k≠bb->(w1.setCell (Tac bb 8) v1).heap[k]?=w.heap[k]?:=fun k hk hn hb=>(bw _ _ _ _ hb).trans (hg.block k hk (fun e=>hn e.symm));have hne:∀k,vv.ownBlock=some k->k≠bb:=fun k e=>by have:=h.vLt e;omega
 have XV:vv.ownBlock≠some bb:=fun e=>hne bb e rfl
 have gw:∀b,b<w.heap.size->okB X bb nv vv b->okB X bb nv v1 b:=fun b hb ho=>⟨ho.1,ho.2.1,fun e=>by
  rcases hat with q|q
  ·exact ho.2.2.1 (q ▸ e)
  rw[q]at e;injection e with e;omega,ho.2.2.2⟩
 have TN:∀k,v1.ownBlock=some k->vv.ownBlock=some k\/w.heap.size<=k:=fun k e=>by
  rcases hat with q|q
  ·exact .inl (q ▸ e)
  rw[q]at e;injection e with e;exact .inr TcN
 have hm:Mv (okB X bb nv vv) (okB X bb nv v1) w (w1.setCell (Tac bb 8) v1):=⟨by simpa[World.setCell]using hz,fun b hb ho=>⟨gw b hb ho,sA b hb ho.2.2.1 Tdo⟩⟩;have hw1:w1.heap[bb]?=w.heap[bb]?:=hg.block bb hbl (fun e=>XV e.symm);refine⟨⟨h.src.keep fun i hi=>sA i TcN (fun e=>by have:=h.vLt e;omega) TcN,hlt,?_,?_,?_,fun k e e'=>?_,fun k hx=>⟨(h.xlt k hx).1,?_⟩,h.xn,fun k e=>?_⟩,?_,fun _ hk=>.inl hk,TN⟩
 ·obtain⟨tv,dv,hv,e,h1,h2,h3⟩:=h.blk;refine⟨tv,dv,hv,?_,(b6.moves aF.moves).mv hm h1,(b6.moves aO.moves).mv hm h2,h3⟩;exact block_setCell (cs:=#[_,_,_,_,_,_,_,_,_,_,_]) (i:=8) _ (hw1.trans e)
 ·refine aC h.ownN fun k e=>sA k (h.nLt e).2 (h.ne k e) (by have:=h.nLt e;omega)
 ·obtain⟨cs,hr,hf⟩:=ho;refine⟨cs,aC hr fun k e=>?_,Flat.moves aN.moves ⟨TcY,fun b hb ho=>⟨?_,?_⟩⟩ _ _ hf⟩
  ·refine bw _ _ _ _ (show k≠bb from ?_);rcases TN k e with q|q
   ·exact hne k q
   omega
  ·exact gw b (cC ho.2 hN) ho.1
  exact bw _ _ _ _ (show b≠bb from by have:=ho.1.1;omega)
 ·rcases TN k e' with q|q
  ·exact h.ne k e q
  have:=h.nLt e;omega
 ·have:=(h.xlt k hx).2;simp[World.setCell];omega
 ·rcases TN k e with q|q
  ·exact h.xv k q
  exact fun hx=>by have:=(h.xlt k hx).2;omega
 refine cR.setCell (p:=⟨bb,8,none⟩) ⟨hg.os,hg.tape,hg.output,hg.size,fun k hk hn=>hg.block k hk (fun e=>hn (.inr (.inr (.inr e.symm))))⟩ (.inl (.inr (.inl rfl))) _
structure jN{α:Type}(V:jx α)(sz:Nat)(e:TypeId)(B:Nat)(ok:Nat->Prop)(w:World)(v:Value)(l:List α)(p:α)(u:List Value)(gb cap:Nat)(w':World):Prop where
 own:bF V sz e B ok w' (.slice (some gb) (l.length+1) cap) (l++[p])
 grown:w.grownBy w' v.ownBlock
 at':v.ownBlock=some gb\/gb=w.heap.size
 last:∀(j:Nat) (y:Value),u[j]?=some y->w'.cell? (gb,l.length*sz+j)=some y
theorem nS{V:jx α}(hV:Moves V){ty:TypeId}(hu:prog.underlying t=some (.slice e))(hi:prog.info? e=some i0)(hz:i0.zero=some z)(hsize:i0.size=sz)(hby:i0.bytes=bytes)(hzs:z.cells.size=sz)(hsz:0<sz)(Hv:bytes<=1000)
  {w:World} (B:Nat) (ok:Nat->Prop) (v:Value) (l:List α) (p:α) (hown:bF V sz e B ok w v l) (g c:Nat) (u:List Value)
  (ez:u.length=sz) (huv:V ok w u p) (hu1:∀z∈u,z.oneCell'=true) (hc:∀(j:Nat) (y:Value),u[j]?=some y->w.cell? (g,j)=some y) (hl:l.length<=1000000) (hB:B<=w.heap.size)
  (gw:∀b,v.ownBlock=some b->¬ok b) :
  ∃gb cap w',(Builtin.append_ #[t,t] ty #[v,.slice (some g) 1 c]).run prog w=.ok (.slice (some ⟨gb,0,none⟩) (l.length+1) cap) w'/\jN V sz e B ok w v l p u gb cap w':=by
 obtain⟨cs,hrow,hf⟩:=hown;obtain⟨v',w',hr,ho',hgr,_,hat⟩:=run_append_own_at (P:=prog) w B t ty e i0 z sz bytes hu hi hz hsize hby hzs hsz v l.length cs hrow ⟨g,0,none⟩ 1 c u TcN (fun j y hy=>by
  rw[iz,eJ];exact hc j y hy) hu1 TcW TeG hB
 have hm:Mv ok ok w w':=⟨hgr.size,fun b hb gR=>⟨gR,hgr.block b hb (fun e=>gw b e.symm gR)⟩⟩;have XJ:cs.length=l.length*sz:=Flat.length _ _ hf;have h1:bF V sz e B ok w' v' (l++[p]):=⟨cs++u,by rw[cD];exact ho',(Flat.one ez (hV.mv hm huv) hu1).append _ _ (Flat.moves hV hm _ _ hf)⟩;have ho2:=ho'.2;rcases ho2 with⟨_,hn⟩|⟨gb,cap,cur,rfl,hb,hg,vr,hcm,hcs,ht⟩
 ·omega
 refine⟨gb,cap,w',hr,h1,hgr,?_,fun j y hy=>?_⟩
 ·rcases hat with q|q
  ·exact .inl q.symm
  injection q with q;exact .inr q
 have hj:j<sz:=by rw[<- ez];exact(List.getElem?_eq_some_iff.1 hy).1
 rw[ho'.cellAt (l.length*sz+j) (by rw[Oy];omega),Cp TcN,XJ,Nat.add_sub_cancel_left];exact hy
theorem dX{V:jx α}(hV:Moves V)(hu:prog.underlying t=some (.slice e))(hi:prog.info? e=some i0)(hz:i0.zero=some z)(hsize:i0.size=sz)(hby:i0.bytes=bytes)(hzs:z.cells.size=sz)(hsz:0<sz)(Hv:bytes<=1000)
  {w:World} {ops:Array Oper} {rest:List Oper} {o:Oper} {a:Act} {Q:Exit->Act->World->Prop} (hgd:o.guard=none) (s x:Operand)
  (ho:o.op=.call { callee:=.builtin .append,args:=#[s,x],argTypes:=#[t,t] })
  (B:Nat) (ok:Nat->Prop) (v:Value) (l:List α) (p:α) (hs:a.eval s=v) (hown:bF V sz e B ok w v l) (g c:Nat) (u:List Value) (hx:a.eval x=.slice (some g) 1 c)
  (ez:u.length=sz) (huv:V ok w u p) (hu1:∀z∈u,z.oneCell'=true) (hc:∀(j:Nat) (y:Value),u[j]?=some y->w.cell? (g,j)=some y) (hl:l.length<=1000000) (hB:B<=w.heap.size)
  (gw:∀b,v.ownBlock=some b->¬ok b)
  (h:∀gb cap w',jN V sz e B ok w v l p u gb cap w'->wpList prog ops Q rest (a.put o.dst (.slice (some ⟨gb,0,none⟩) (l.length+1) cap)) w'):wpList prog ops Q (o :: rest) a w:=by
 refine wpList_plain hgd fun K hK=>?_;obtain⟨gb,cap,w',hr,hp⟩:=nS (ty:=o.type) hV hu hi hz hsize hby hzs hsz Hv B ok v l p hown g c u ez huv hu1 hc hl hB gw;unfold Oper.wp execOp;simp only[ho,resolve,invoke,builtin,Sem.run_bind,Sem.run_pure,ud,tS,iu,List.map_nil,hs,hx,hr];exact hK _ _ (h gb cap w' hp)
theorem mU{V:jx α}(hV:Moves V)(hu:prog.underlying t=some (.slice e))(hi:prog.info? e=some i0)(hz:i0.zero=some z)(hsize:i0.size=sz)(hby:i0.bytes=bytes)(hzs:z.cells.size=sz)(hsz:0<sz)(Hv:bytes<=1000)
  {o:Oper} {dd:Tmp} {a:Act} {w:World} {K:Act->World->Prop} {Q:Exit->Act->World->Prop}
  (hdd:o.dst=some dd) (s x:Operand) (hop:o.op=Op.call { callee:=Callee.builtin Builtin.append,args:=#[s,x],argTypes:=#[t,t] })
  (B:Nat) (ok:Nat->Prop) (v:Value) (l:List α) (p:α) (hs:a.eval s=v) (hown:bF V sz e B ok w v l) (g c:Nat) (u:List Value) (hx:a.eval x=.slice (some g) 1 c)
  (ez:u.length=sz) (huv:V ok w u p) (hu1:∀z∈u,z.oneCell'=true) (hc:∀(j:Nat) (y:Value),u[j]?=some y->w.cell? (g,j)=some y) (hl:l.length<=1000000) (hB:B<=w.heap.size)
  (gw:∀b,v.ownBlock=some b->¬ok b)
  (hK:∀gb cap w',jN V sz e B ok w v l p u gb cap w'->K (a.put (some dd) (.slice (some ⟨gb,0,none⟩) (l.length+1) cap)) w'):Oper.wp prog o a w K Q:=by
 obtain⟨gb,cap,w',hr,hp⟩:=nS (ty:=o.type) hV hu hi hz hsize hby hzs hsz Hv B ok v l p hown g c u ez huv hu1 hc hl hB gw;unfold Oper.wp;simp[execOp,hop,resolve,invoke,builtin,hs,hx,hr,Result.andThen];show K (a.put o.dst _) w';rw[hdd];exact hK gb cap w' hp
theorem eW.okNew{next:List Int}(h:eW X w bs bb nv vv g next){k:Nat}(hk:w.heap.size<=k):okB X bb nv vv k :=
 ⟨by have:=h.Gj;omega,fun e=>by have:=h.nLt e;omega,fun e=>by have:=h.vLt e;omega,fun hx=>by have:=h.xlt k hx;omega⟩
theorem b6.one{V:jx α}{ok:Nat->Prop}{b:Nat}{x:α}(hb:w.heap[b]?=some (.cells u.toArray t (0,0)))(ho:ok b)(hu:u.length=sz)(hv:V ok w u x):b6 V sz ok w [.slice (some b) 1 1] [x]:=by
 refine⟨some ⟨b,0,none⟩,1,rfl,TcO,TcN,fun _=>⟨b,0,rfl,aq hb,ho,fun i y hy=>?_⟩⟩
 match i,hy with
 |0,hy =>
  simp at hy;subst hy;refine⟨u,hu,hv,fun j z hz=>?_⟩;simp[World.cell?,hb,hz]
 |i+1,hy=>simp at hy
theorem b6.nil{V:jx α}{ok:Nat->Prop}:b6 V sz ok w [.slice none 0 0] []:=⟨none,0,rfl,TcO,TcN,fun h=>absurd h TcO⟩
theorem eW.ready{next:List Int}(h:eW X w bs bb nv vv g next)(hp:aN (okB X bb nv vv) w u p)(w1:World)(hb:Below w.heap.size w w1) :
  bF aN 6 57 (bb+1) (fun b=>okB X bb nv vv b/\b<w.heap.size) w1 vv g.F9/\aN (fun b=>okB X bb nv vv b/\b<w.heap.size) w1 u p:=by
 have hm:Mv (okB X bb nv vv) (fun b=>okB X bb nv vv b/\b<w.heap.size) w w1:=⟨hb.size,fun b hb' ho=>⟨⟨ho,hb'⟩,hb.block b hb'⟩⟩;obtain⟨cs,ho,hf⟩:=h.ownV;exact⟨⟨cs,eF ho fun k _ h2=>hb.block k h2,Flat.moves aN.moves hm _ _ hf⟩,aN.moves.mv hm hp⟩
theorem H8 :∀b,vv.ownBlock=some b->¬(okB X bb nv vv b/\b<N):=fun _ e ho=>ho.1.2.2.1 e
theorem eW.pushKeeps{cap:Nat}{next:List Int}(h:eW X w bs bb nv vv g next)(hb:Below w.heap.size w w1)(hp:jN aN 6 57 (bb+1) (fun b=>okB X bb nv vv b/\b<N) w1 vv g.F9 p u gb cap w2) :
  w2.heap[bb]?=w.heap[bb]?/\∀k,X k->w2.heap[k]?=w.heap[k]?:=by
 have hbl:=h.Gj;refine⟨(hp.grown.block bb (cC hbl hb.size) (fun e=>by have:=h.vLt e.symm;omega)).trans (hb.block bb hbl),fun k hk=>?_⟩;have Tt:=(h.xlt k hk).2;exact(hp.grown.block k (cC Tt hb.size) (fun e=>h.xv k e.symm hk)).trans (hb.block k Tt)
theorem aH.push{w0:World}{cap:Nat}{rK rN:Value}{next:List Int}(h:aH X bs bb rK rN w0 w nv vv g next)(hb:Below w.heap.size w w1)(hp:jN aN 6 57 (bb+1) (fun b=>okB X bb nv vv b/\b<N) w1 vv g.F9 p u gb cap w2)(hN:N<=w.heap.size) :
  aH X bs bb rK rN w0 (w2.setCell (Tac bb 8) (.slice (some gb) (g.F9.length+1) cap)) nv (.slice (some gb) (g.F9.length+1) cap) { g with F9:=g.F9++[p] } next:=by
 have h1:=h.after hb;refine h1.trans (h1.bld.pushVol hp.own (cA hN hb.size) hp.grown ?_);rcases hp.at' with q|q
 ·exact .inl q.symm
 exact .inr (by rw[q];rfl)
def Tai :Tab #[.string ⟨#[]⟩,.int .u64 0,.bool false,.bool false,.slice none 0 0,.slice none 0 0]:=⟨⟩
theorem zT:(prog.info? 57).map (fun i=>(i.zero,i.size,i.bytes))=some (some (.agg Tai),6,80):=by kernel_rfl
def Tar :Tab #[.int .i64 0,.int .i64 0,.int .i64 0,.slice none 0 0,.int .i64 0,.slice none 0 0,.string ⟨#[]⟩,.string ⟨#[]⟩,.int .i64 0,.int .i64 0,.int .i64 0]:=⟨⟩
theorem Am:(prog.info? 88).map (fun i=>(i.zero,i.size,i.bytes))=some (some (.agg Tar),11,136):=by kernel_rfl
theorem kL:(prog.info? 83).map (fun i=>(i.zero,i.size,i.bytes))=some (some (.agg Taq),3,32):=by kernel_rfl
section
variable {P:Program}{ops:Array Oper}{Q:Exit->Act->World->Prop}{md:Region.Mode}{S:World->Prop}{m:Nat}{N:Nat->Bool}
variable {a a0:Act}{w:World}{listed:Array Bool}{j i t fuel:Nat}{oi:Oper}{v:Value}{d:Tmp}{ws:List Nat}{l:List Oper}{F:Nat->(Nat->Value)->World->Prop}{C:(Nat->Bool)->World->Prop}{Ev:Nat->World->World->Prop}{idx:List (Nat × Nat)}{p:Nat × Nat}{ag:Nat->List Nat}
def bG(P:Program)(md:Region.Mode)(ops:Array Oper)(Q:Exit->Act->World->Prop)(S:World->Prop)(N:Nat->Bool):Nat->Array Bool->Act->World->Prop
 |0,listed,a,w=>Region.ready md ops listed=[]/\Q .normal a w
 |fuel+1,listed,a,w =>
  (Region.ready md ops listed=[]->Q .normal a w) /\
  ∀i∈Region.ready md ops listed,wpOp P ops Q i (fun a' w'=>(N i=true->S w')/\bG P md ops Q S N fuel (listed.setIfInBounds i true) a' w') a w
theorem mF:∀(fuel:Nat) (listed:Array Bool) (a:Act) (w:World),bG P md ops Q S N fuel listed a w->wpAny P md ops Q fuel listed a w
 |0,_,_,_,h=>h
 |fuel+1,_,_,_,h=>⟨h.1,fun i hi=>wpOp_mono (fun a' w' h'=>mF fuel _ a' w' h'.2) (h.2 i hi)⟩
def needs(m:Nat)(ws:List Nat):Nat->Bool:=fun i=>decide (i<m)&&!ws.contains i
theorem aZ{id:Nat}(S:World->Prop)(m:Nat)(ws:List Nat)(hm:P.follows .mixedOrders=true)(hS:S w.drew)
  (h:S w.drew->bG P .any ops Q S (needs m ws) ops.size (Array.replicate ops.size false) a w.drew):(Code.region id ops true).wp P Q a w :=
 wp_region_any hm (mF _ _ _ _ (h hS))
def NH(md:Region.Mode)(ops:Array Oper)(listed:Array Bool):Prop:=∀(j:Nat) (oj:Oper),ops[j]?=some oj->listed.getD j false=true->∀e∈oj.after,Region.binds md e=true->listed.getD e.on false=true
def BF(md:Region.Mode)(ops:Array Oper)(listed:Array Bool):Bool:=(List.range ops.size).all fun j=>match ops[j]? with
 |some oj=>!listed.getD j false||oj.after.all fun e=>!Region.binds md e||listed.getD e.on false
 |none=>true
theorem oK(h:BF md ops listed=true):NH md ops listed:=fun j oj hj hl e he hb=>by
 have:=List.all_eq_true.1 h j (List.mem_range.2 (Array.getElem?_eq_some_iff.1 hj).1);simp only[hj,hl,Bool.not_true,nj]at this;have:=Array.all_eq_true_iff_forall_mem.1 this e he;simpa[hb]using this
theorem NH.set(h:NH md ops listed)(hj:j∈Region.ready md ops listed):NH md ops (listed.setIfInBounds j true):=fun k ok hk hl e he hb=>by
 by_cases hjk:j=k
 ·subst hjk;obtain⟨_,o,ho,hall⟩:=mem_ready.1 hj;rw[hk]at ho;injection ho with ho;subst ho;exact getD_set_true (hall e he hb)
 rw[ly false hjk]at hl;exact getD_set_true (h k ok hk hl e he hb)
def ky(md:Region.Mode)(ops:Array Oper):Nat->Nat->Nat->Bool
 |0,_,_=>false
 |f+1,t,i=>Region.waitsFor md ops t i||(match ops[t]? with
  |some o=>o.after.any fun e=>Region.binds md e&&ky md ops f e.on i
  |none=>false)
theorem mP(hc:NH md ops listed):∀(f t:Nat) (o:Oper),ops[t]?=some o->(∀e∈o.after,Region.binds md e=true->listed.getD e.on false=true)->ky md ops f t i=true->listed.getD i false=true
 |0,_,_,_,_,h=>by cases h
 |f+1,t,o,ho,hall,h=>by
  simp only[ky,ho,tG]at h;rcases h with h|h
  ·obtain⟨ot,Mo,e,he,hb,hon⟩:=A5 h;rw[ho]at Mo;injection Mo with Mo;subst Mo;rw[<- hon];exact hall e he hb
  obtain⟨k,hk,h2⟩:=Array.any_eq_true.1 h;simp only[eh]at h2;have hl:=hall _ (Array.getElem_mem hk) h2.1;cases UX:ops[(o.after[k]).on]? with
  |none =>
   cases f with
   |zero=>simp[ky]at h2
   |succ f=>simp[ky,UX,Region.waitsFor]at h2
  |some oe=>exact mP hc f _ oe UX (hc _ oe UX hl) h2.2
theorem nW{f:Nat}(hc:NH md ops listed)(hw:ky md ops f t i=true)(hi:listed.getD i true=false):t ∉ Region.ready md ops listed:=fun ht=>by
 obtain⟨_,o,ho,hall⟩:=mem_ready.1 ht;have h1:=mP hc f t o ho hall hw;rw[getD_both hi]at h1;cases h1
def lM(md:Region.Mode)(ops:Array Oper)(N:Nat->Bool)(listed:Array Bool)(i:Nat):Bool:=(List.range ops.size).all fun t=>N t||listed.getD t true||ky md ops ops.size t i
theorem Gs(h:lM md ops N listed i=true)(ht:N t=false)(hs:t<ops.size)(hu:listed.getD t true=false):ky md ops ops.size t i=true:=by
 have:=List.all_eq_true.1 h t (List.mem_range.2 hs);simp only[ht,hu,nj]at this;exact this
theorem uJ(h:lM md ops N listed i=true):lM md ops N (listed.setIfInBounds j true) i=true:=by
 refine List.all_eq_true.2 fun t ht=>?_;have:=List.all_eq_true.1 h t ht;simp only[tG]at this ⊢;rcases this with(q|q)|q
 ·exact .inl (.inl q)
 ·refine .inl (.inr ?_);by_cases e:j=t
  ·subst e;by_cases hs:j<listed.size
   ·simp[hs]
   simp[]
  rw[ly true e];exact q
 exact .inr q
theorem mV(h:j∈Region.ready md ops listed):j<ops.size:=by
 obtain⟨_,o,ho,_⟩:=mem_ready.1 h;exact(Array.getElem?_eq_some_iff.1 ho).1
theorem uN(hi:ops[i]?=some oi)(mj:∀(j:Nat) (o:Oper) cs b,ops[j]?=some o->o.op≠.select cs b)
  (hQ:∀c a w,Q (.panic c) (a.put oi.dst v) w->Q (.panic c) a w) :
  ∀(fuel:Nat) (listed:Array Bool) (a:Act) (w:World),lM md ops N listed i=true ->
   (∀j oj,ops[j]?=some oj->j≠i->listed.getD j true=false->(∀e∈oj.after,Region.binds md e=true->e.on≠i)->oi.apart ops oj=true) ->
   NH md ops listed->i∈Region.ready md ops listed->YieldsIf P ops S oi v a->S w ->
   bG P md ops Q S N fuel (listed.setIfInBounds i true) (a.put oi.dst v) w->bG P md ops Q S N (fuel+1) listed a w:=by
 intro fuel;induction fuel with
 |zero =>
  intro listed a w _ _ _ hr hy hS H;refine⟨fun h=>Tda,fun j hj=>?_⟩;by_cases nr:j=i
  ·subst nr;exact hy.wpOp hi hS ⟨fun _=>hS,H⟩
  have:=ix hj nr;rw[H.1]at this;cases this
 |succ fuel ih =>
  intro listed a w hl ua hc hr hy hS H;have pN:=(mem_ready.1 hr).1;refine⟨fun h=>Tda,fun j hj=>?_⟩;by_cases nr:j=i
  ·subst nr;exact hy.wpOp hi hS ⟨fun _=>hS,H⟩
  have UY:N j=true:=by
   cases hN:N j with
   |true=>rfl
   |false=>exact absurd hj (nW hc (Gs hl hN (mV hj) (mem_ready.1 hj).1) pN)
  have h1:=H.2 j (ix hj nr);obtain⟨zj,oj,F0,hall⟩:=mem_ready.1 hj;have ao1:∀e∈oj.after,Region.binds md e=true->e.on≠i:=fun e he hb heq=>by
   have h1:=hall e he hb;rw[heq,getD_both pN]at h1;cases h1
  have h2:=wpOp_putIf F0 (ua j oj F0 nr zj ao1) (fun cs b=>mj i oi cs b hi) (fun cs b=>mj j oj cs b F0) hQ hy h1;have pP:∀k ok,ops[k]?=some ok->k≠i->(listed.setIfInBounds j true).getD k true=false ->
    (∀e∈ok.after,Region.binds md e=true->e.on≠i)->oi.apart ops ok=true:=fun k ok hk Ta pN hno=>by
   refine ua k ok hk Ta ?_ hno;by_cases hjk:j=k
   ·subst hjk;exact zj
   rw[ly true hjk]at pN;exact pN
  refine wpOp_mono (fun a' w' h3=>⟨h3.2.1,ih (listed.setIfInBounds j true) a' w' (uJ hl) pP (hc.set hj) (ix hr (Ne.symm nr)) h3.1 (h3.2.1 UY) ?_⟩) h2;rw[FA _ _ nr];exact h3.2.2
theorem Tdp{p:Prop}(h:p:=by simpa using h3):p:=h
theorem o7(hi:ops[i]?=some oi)(hd:oi.dst=some d)
  (hb:(Region.noSelect ops&&Region.free md ops listed i&&(Region.ready md ops listed).contains i&&lM md ops N listed i&&BF md ops listed)=true)
  (hQ:∀c a w,Q (.panic c) (a.put (some d) v) w->Q (.panic c) a w) (hy:YieldsIf P ops S oi v a) (hS:S w)
  (h:bG P md ops Q S N fuel (listed.setIfInBounds i true) (a.put (some d) v) w):bG P md ops Q S N (fuel+1) listed a w:=by
 simp only[eh]at hb;obtain⟨⟨⟨⟨h1,h2⟩,h3⟩,h4⟩,h5⟩:=hb;rw[<- hd]at hQ h;exact uN hi (XS h1) hQ fuel listed a w h4 (Region.free_spec hi h2) (oK h5) Tdp hy hS h
theorem sG(hi:ops[i]?=some oi)(mj:∀(j:Nat) (o:Oper) cs b,ops[j]?=some o->o.op≠.select cs b)
  (hN:N i=false) (hQ:∀c a w,Q (.panic c) (a.put oi.dst v) w->Q (.panic c) a w) :
  ∀(fuel:Nat) (listed:Array Bool) (a:Act) (w:World),
   (∀j oj,ops[j]?=some oj->j≠i->listed.getD j true=false->(∀e∈oj.after,Region.binds md e=true->e.on≠i)->oi.apart ops oj=true) ->
   i∈Region.ready md ops listed->YieldsIf P ops (fun _=>True) oi v a ->
   bG P md ops Q S N fuel (listed.setIfInBounds i true) (a.put oi.dst v) w->bG P md ops Q S N (fuel+1) listed a w:=by
 have hv:∀w:World,N i=true->S w:=fun w h=>by rw[hN]at h;cases h
 intro fuel;induction fuel with
 |zero =>
  intro listed a w _ hr hy H;refine⟨fun h=>Tda,fun j hj=>?_⟩;by_cases nr:j=i
  ·subst nr;exact hy.wpOp hi trivial ⟨hv _,H⟩
  have:=ix hj nr;rw[H.1]at this;cases this
 |succ fuel ih =>
  intro listed a w ua hr hy H;have pN:=(mem_ready.1 hr).1;refine⟨fun h=>Tda,fun j hj=>?_⟩;by_cases nr:j=i
  ·subst nr;exact hy.wpOp hi trivial ⟨hv _,H⟩
  have h1:=H.2 j (ix hj nr);obtain⟨zj,oj,F0,hall⟩:=mem_ready.1 hj;have ao1:∀e∈oj.after,Region.binds md e=true->e.on≠i:=fun e he hb heq=>by
   have h1:=hall e he hb;rw[heq,getD_both pN]at h1;cases h1
  have h2:=wpOp_putIf F0 (ua j oj F0 nr zj ao1) (fun cs b=>mj i oi cs b hi) (fun cs b=>mj j oj cs b F0) hQ hy h1;have pP:∀k ok,ops[k]?=some ok->k≠i->(listed.setIfInBounds j true).getD k true=false ->
    (∀e∈ok.after,Region.binds md e=true->e.on≠i)->oi.apart ops ok=true:=fun k ok hk Ta pN hno=>by
   refine ua k ok hk Ta ?_ hno;by_cases hjk:j=k
   ·subst hjk;exact zj
   rw[ly true hjk]at pN;exact pN
  refine wpOp_mono (fun a' w' h3=>⟨h3.2.1,ih (listed.setIfInBounds j true) a' w' pP (ix hr (Ne.symm nr)) h3.1 ?_⟩) h2;rw[FA _ _ nr];exact h3.2.2
theorem nz(hi:ops[i]?=some oi)(hd:oi.dst=some d)
  (hb:(Region.noSelect ops&&Region.free md ops listed i&&(Region.ready md ops listed).contains i&&!N i)=true)
  (hQ:∀c a w,Q (.panic c) (a.put (some d) v) w->Q (.panic c) a w) (hy:YieldsIf P ops (fun _=>True) oi v a)
  (h:bG P md ops Q S N fuel (listed.setIfInBounds i true) (a.put (some d) v) w):bG P md ops Q S N (fuel+1) listed a w:=by
 simp only[eh,tz]at hb;obtain⟨⟨⟨h1,h2⟩,h3⟩,h4⟩:=hb;rw[<- hd]at hQ h;exact sG hi (XS h1) h4 hQ fuel listed a w (Region.free_spec hi h2) Tdp hy h
theorem gM:∀(l:List Oper) (k:Nat) (listed:Array Bool) (a:Act) (w:World),(∀t,k<=t->N t=false)->(∀j,l[j]?=ops[k+j]?) ->
  Region.seqB md ops l.length k listed=true->wpList P ops Q l a w->bG P md ops Q S N l.length listed a w
 |[],_,_,_,_,_,_,hB,h=>⟨by simpa[Region.seqB]using hB,h⟩
 |o :: l,k,listed,a,w,hm,hl,hB,h=>by
  have h0:ops[k]?=some o:=by simpa using(hl 0).symm
  simp only[cS,Region.seqB,eh,fk]at hB;refine⟨fun h1=>(by rw[hB.1]at h1;cases h1),fun i hi=>?_⟩;rw[hB.1]at hi;have hik:i=k:=by simpa using hi
  subst hik;have hw:wpOp P ops Q i (wpList P ops Q l) a w:=by unfold wpOp;simp only[h0];exact h
  exact wpOp_mono (fun a' w' h'=>⟨fun h=>(by rw[hm i (bk _)]at h;cases h),gM l (i+1) _ a' w' (fun t ht=>hm t TcN) (fun j=>by have:=hl (j+1);simpa[Nat.add_assoc,Nat.add_comm 1 j]using this) hB.2 h'⟩) hw
theorem Tcb{p:Prop}(h:p:=by
 unfold wpOp;simp only[hi,hw,ej];exact .inl (h _ (aa fun a' w' h1 h2=>⟨fun _=>h1,h2⟩))):p:=h
theorem Tdn{p:Prop}(h:p:=by rw[hr]at h0;cases h0):p:=h
theorem au{o:Oper}(hi:ops[i]?=some o)(hg:o.guard=none)(hr:Region.ready md ops listed=[i])
  (h:∀K:Act->World->Prop,Hid (∀a' w',S w'->bG P md ops Q S N fuel (listed.setIfInBounds i true) a' w'->K a' w')->o.wp P a w K Q):bG P md ops Q S N (fuel+1) listed a w:=by
 refine⟨fun h0=>Tdn,fun j hj=>?_⟩;rw[hr]at hj;obtain rfl:j=i:=by simpa using hj
 have hw:Region.wanted o (yielded ops a.tmps)=true:=by simp[Region.wanted,hg]
 exact Tcb
theorem qJ :∀t,m<=t->needs m ws t=false:=fun t ht=>by simp[needs];omega
theorem aP(hB:Region.seqB md l.toArray (l.toArray.size-m) m listed=true)(hf:fuel=(l.drop m).length)(h:wpList P l.toArray Q (l.drop m) a w):bG P md l.toArray Q S (needs m ws) fuel listed a w:=by
 rw[hf];exact gM (l.drop m) m listed a w qJ (fun j=>by simp[pk]) (by simpa using hB) h
def over(a:Act)(js:List (Nat × Nat))(vs:Nat->Value):Act:=js.foldl (fun a p=>a.put (some p.2) (vs p.1)) a
theorem dW(a:Act)(p:Nat × Nat)(js:List (Nat × Nat))(vs:Nat->Value):over a (p :: js) vs=over (a.put (some p.2) (vs p.1)) js vs:=rfl
theorem Cn(js:List (Nat × Nat))(vs:Nat->Value)(d:Nat)(v:Value):∀a:Act,(∀p∈js,p.2≠d)->over (a.put (some d) v) js vs=(over a js vs).put (some d) v:=by
 induction js with
 |nil=>intro a _;rfl
 |cons p js ih =>
  intro a h;rw[dW,dW,<- ih _ (fun q hq=>h q (kn _ hq)),Act.put_comm a v (vs p.1) (fun e he=>by
   injection he with he;subst he;intro hc;injection hc with hc;exact h p (cG ..) hc)]
theorem zx{vs us:Nat->Value}(js:List (Nat × Nat)):∀a:Act,(∀p∈js,vs p.1=us p.1)->over a js vs=over a js us:=by
 induction js with
 |nil=>intro a _;rfl
 |cons p js ih =>
  intro a h;rw[dW,dW,h p (cG ..)];exact ih _ fun q hq=>h q (kn _ hq)
theorem xm(js:List (Nat × Nat))(vs:Nat->Value):∀a:Act,over a js vs={ a with tmps:=(over a js vs).tmps }:=by
 induction js with
 |nil=>intro a;rfl
 |cons p js ih =>
  intro a;rw[dW,ih];rfl
theorem mE(js:List (Nat × Nat))(vs:Nat->Value)(t:Nat):∀a:Act,(∀p∈js,p.2≠t)->(over a js vs).eval (.tmp t)=a.eval (.tmp t):=by
 induction js with
 |nil=>intro a _;rfl
 |cons p js ih =>
  intro a h;rw[dW,ih _ fun q hq=>h q (kn _ hq)];exact Act.eval_put fun d hd he=>by
   injection hd with hd;injection he with he;exact h p (cG ..) (hd.trans he.symm)
theorem zN(js:List (Nat × Nat))(vs:Nat->Value)(p:Nat × Nat):∀a:Act,(js.map (·.2)).Nodup->p∈js->(over a js vs).eval (.tmp p.2)=(a.put (some p.2) (vs p.1)).eval (.tmp p.2):=by
 induction js with
 |nil=>intro a _ h;cases h
 |cons q js ih =>
  intro a hn h;rw[iu,List.nodup_cons]at hn;rw[dW];rcases List.mem_cons.1 h with rfl|h1
  ·exact mE js vs p.2 _ fun r hr e=>hn.1 (List.mem_map.2 ⟨r,hr,e⟩)
  have hne:q.2≠p.2:=fun e=>hn.1 (List.mem_map.2 ⟨p,h1,e.symm⟩)
  rw[ih _ hn.2 h1,Act.put_comm a (vs q.1) (vs p.1) (fun d hd hc=>by
   injection hd with hd;injection hc with hc;exact hne (hd.trans hc.symm))]
  exact Act.eval_put fun d hd he=>by
   injection hd with hd;injection he with he;exact hne (hd.trans he.symm)
theorem TdF{p:Prop}(h:p:=by simp[hq]):p:=h
theorem BK(vs:Nat->Value)(p:Nat × Nat)(v:Value)(f:Nat->Bool)(hf:f p.1=false):∀(js:List (Nat × Nat)) (a:Act),(js.map (·.2)).Nodup->(js.map (·.1)).Nodup->p∈js ->
  over a (js.filter fun q=>f q.1||q.1==p.1) (fun k=>if k=p.1 then v else vs k)=(over a (js.filter fun q=>f q.1) vs).put (some p.2) v:=by
 intro js;induction js with
 |nil=>intro a _ _ h;cases h
 |cons q js ih =>
  intro a hn hk h;rw[iu,List.nodup_cons]at hn hk;rcases List.mem_cons.1 h with rfl|h1
  ·have e1:js.filter (fun q=>f q.1||q.1==p.1)=js.filter (fun q=>f q.1):=A0 fun r hr=>by
    have:r.1≠p.1:=fun e=>hk.1 (List.mem_map.2 ⟨r,hr,e⟩);simp[this]
   rw[E1 TcO,ae7 (by simp[hf]),dW,e1,Cn _ _ _ _ _ (fun r hr e=>hn.1 (List.mem_map.2 ⟨r,(List.mem_filter.1 hr).1,e⟩))];simp only[ej];rw[zx (us:=vs) _ _ fun r hr=>bh fun e=>hk.1 (List.mem_map.2 ⟨r,(List.mem_filter.1 hr).1,e⟩)]
  have Qa:q.1≠p.1:=fun e=>hk.1 (List.mem_map.2 ⟨p,h1,e.symm⟩)
  by_cases hq:f q.1=true
  ·rw[E1 TdF,E1 (p:=fun(q:Nat × Nat)=>f q.1) hq,dW,dW,bh Qa];exact ih _ hn.2 hk.2 h1
  rw[ae7 (by simp[hq,Qa]),ae7 (p:=fun(q:Nat × Nat)=>f q.1) hq];exact ih _ hn.2 hk.2 h1
def mI(ops:Array Oper)(i:Nat)(p:Nat × Nat):Bool:=match ops[i]? with
 |some o=>(o.looksAt ops).contains p.2
 |none=>false
theorem uo(js:List (Nat × Nat))(vs:Nat->Value):∀a:Act,(over a js vs).tmps.size=a.tmps.size:=by
 induction js with
 |nil=>intro a;rfl
 |cons p js ih =>
  intro a;rw[dW,ih];simp[Act.put]
theorem Ck{o:Oper}{b:Act}{G:Value->World->Prop}(he:execOp a.eval o=execOp b.eval o)(hsz:a.tmps.size=b.tmps.size)(hQ:∀c w,Q (.panic c) b w->Q (.panic c) a w)
  (h:o.wp P b w (fun a' w'=>∃v,a'=b.put o.dst v/\G v w') Q):o.wp P a w (fun a' w'=>∃v,a'=a.put o.dst v/\G v w') Q:=by
 have inj:∀(u:Value) (w:World),(∃v,b.put o.dst u=b.put o.dst v/\G v w)->∃x,a.put o.dst u=a.put o.dst x/\G x w:=fun u w ⟨v,e,g⟩=>by
  refine⟨v,?_,g⟩;cases hd:o.dst with
  |none=>rfl
  |some d =>
   rw[hd]at e;simp only[Act.put,Act.mk.injEq,and_true]at e ⊢;by_cases hlt:d<b.tmps.size
   ·have:=fj (fun t=>t[d]?) e;simp[hlt]at this;rw[this]
   rw[Array.setIfInBounds_eq_of_size_le (by rw[hsz];exact Nat.le_of_not_lt hlt),Array.setIfInBounds_eq_of_size_le (by rw[hsz];exact Nat.le_of_not_lt hlt)]
 unfold Oper.wp at *;rw[he];generalize (execOp b.eval o).run P w=r at *;cases r with
 |ok n w' =>
  cases n<;>simp only[Oper.upon]at h ⊢
  case value u=>exact inj u w' h
  case skip=>exact inj undef w' h
  case defer d =>
   obtain⟨v,e,_⟩:=h;have:=fj Act.defers e;exfalso
   cases hd:o.dst<;>rw[hd]at this<;>simp[Act.put]at this
  case enter f args =>
   refine Calls.mono h fun e w'' he=>?_;cases e with
   |returned u=>exact inj u w'' he
   |panicked c=>exact hQ _ _ he
   |outgrown=>exact he
  case row row args=>exact Rows.mono h fun u w'' he=>inj u w'' he
 |halt x w' =>
  cases x<;>simp only[Oper.upon]at h ⊢
  case panic u=>exact hQ _ _ h
def zF(md:Region.Mode)(ops:Array Oper)(m:Nat)(idx:List (Nat × Nat))(ag:Nat->List Nat)(listed:Array Bool):Bool :=
 Region.noSelect ops&&decide (listed.size=ops.size)&&decide (m<=ops.size) &&
 idx.all (fun p=>decide (p.1<m)&&!listed.getD p.1 true&&(match ops[p.1]? with
  |some o=>o.guard.isNone&&o.dst==some p.2
  |none=>false)) &&
 decide (idx.map (·.1)).Nodup&&decide (idx.map (·.2)).Nodup &&
 (List.range ops.size).all (fun t=>if t<m then listed.getD t false||idx.any (fun p=>p.1==t) else !listed.getD t true) &&
 idx.all (fun p=>idx.all fun q=>!mI ops p.1 q||Region.waitsFor md ops p.1 q.1) &&
 idx.all (fun p=>(ag p.1).all fun k=>k==p.1||idx.any (fun q=>q.1==k&&mI ops p.1 q)) &&
 idx.all (fun p=>lM md ops (fun t=>decide (t<m)) listed p.1)&&BF md ops listed &&
 (List.range ops.size).all (fun t=>match ops[t]? with
  |some o=>o.after.all fun e=>!Region.binds md e||decide (e.on<t)
  |none=>true) &&
 Region.seqB md ops (ops.size-m) m (Array.ofFn (n:=ops.size) fun t=>decide (t.1<m))
def kA(P:Program)(ops:Array Oper)(Q:Exit->Act->World->Prop)(F:Nat->(Nat->Value)->World->Prop)(C:(Nat->Bool)->World->Prop)(Ev:Nat->World->World->Prop)(a0:Act)(idx:List (Nat × Nat)):List (Nat × Nat)->Prop
 |[]=>True
 |p :: t=>(∀o,ops[p.1]?=some o->∀(vs:Nat->Value) (d:Nat->Bool) (w:World),d p.1=false->C d w->(∀q∈idx.filter (mI ops p.1),d q.1=true/\F q.1 vs w) ->
   o.wp P (over a0 (idx.filter (mI ops p.1)) vs) w (fun a' w'=>∃v,a'=(over a0 (idx.filter (mI ops p.1)) vs).put o.dst v/\C (fun j=>d j||j==p.1) w'/\Ev p.1 w w'/\F p.1 (fun k=>if k=p.1 then v else vs k) w') Q)/\kA P ops Q F C Ev a0 idx t
theorem kA.at :∀ {l:List (Nat × Nat)},kA P ops Q F C Ev a0 idx l->∀p∈l,∀o,ops[p.1]?=some o->∀(vs:Nat->Value) (d:Nat->Bool) (w:World),d p.1=false->C d w->(∀q∈idx.filter (mI ops p.1),d q.1=true/\F q.1 vs w) ->
   o.wp P (over a0 (idx.filter (mI ops p.1)) vs) w (fun a' w'=>∃v,a'=(over a0 (idx.filter (mI ops p.1)) vs).put o.dst v/\C (fun j=>d j||j==p.1) w'/\Ev p.1 w w'/\F p.1 (fun k=>if k=p.1 then v else vs k) w') Q
 |[],_,p,hp=>by cases hp
 |q :: t,h,p,hp=>by
  rcases List.mem_cons.1 hp with rfl|h1
  ·exact h.1
  exact kA.at h.2 p h1
theorem kA.cons{t deps:List (Nat × Nat)}{o:Oper}(ho:ops[p.1]?=some o)(QH:o.dst=some p.2)(hd:idx.filter (mI ops p.1)=deps)
  (h:∀(vs:Nat->Value) (d:Nat->Bool) (w:World),d p.1=false->C d w->(∀q∈deps,d q.1=true/\F q.1 vs w)->∀K:Act->World->Prop,Hid (∀v w',C (fun j=>d j||j==p.1) w'->Ev p.1 w w'->F p.1 (fun k=>if k=p.1 then v else vs k) w'->∀a',a'=(over a0 deps vs).put (some p.2) v->K a' w')->o.wp P (over a0 deps vs) w K Q) (ht:kA P ops Q F C Ev a0 idx t):kA P ops Q F C Ev a0 idx (p :: t) :=
 ⟨fun o' ho'=>by
  rw[ho]at ho';injection ho' with ho';subst ho';rw[hd];exact fun vs d w h0 hC hF=>h vs d w h0 hC hF _ (aa fun v w' h1 h2 h3 a' e=>⟨v,by rw[QH];exact e,h1,h2,h3⟩),ht⟩
structure EH(md:Region.Mode)(ops:Array Oper)(m:Nat)(idx:List (Nat × Nat))(ag:Nat->List Nat):Prop where
 sel:∀(j:Nat) (o:Oper) cs b,ops[j]?=some o->o.op≠.select cs b
 le:m<=ops.size
 op:∀p∈idx,p.1<m/\∃o,ops[p.1]?=some o/\o.guard=none/\o.dst=some p.2
 n1:(idx.map (·.1)).Nodup
 n2:(idx.map (·.2)).Nodup
 dep:∀p∈idx,∀q∈idx,mI ops p.1 q=true->Region.waitsFor md ops p.1 q.1=true
 agr:∀p∈idx,∀k∈ag p.1,k=p.1\/∃q∈idx,q.1=k/\mI ops p.1 q=true
 late:∀p∈idx,∀t,m<=t->t<ops.size->ky md ops ops.size t p.1=true
 down:∀(t:Nat) (o:Oper),ops[t]?=some o->∀e∈o.after,Region.binds md e=true->e.on<t
 seq:Region.seqB md ops (ops.size-m) m (Array.ofFn (n:=ops.size) fun t=>decide (t.1<m))=true
structure EL(md:Region.Mode)(ops:Array Oper)(m:Nat)(idx:List (Nat × Nat))(listed:Array Bool):Prop where
 size:listed.size=ops.size
 head:∀t,t<m->listed.getD t false=true\/∃p∈idx,p.1=t
 tail:∀t,m<=t->t<ops.size->listed.getD t true=false
 clo:NH md ops listed
theorem xQ(h:zF md ops m idx ag listed=true):EH md ops m idx ag/\EL md ops m idx listed/\∀p∈idx,listed.getD p.1 true=false:=by
 simp only[zF,eh,fk]at h;obtain⟨⟨⟨⟨⟨⟨⟨⟨⟨⟨⟨⟨h1,h2⟩,h3⟩,h4⟩,h5⟩,h6⟩,h7⟩,h8⟩,h13⟩,h9⟩,h12⟩,h10⟩,h11⟩:=h;have k4:=fun p hp=>List.all_eq_true.1 h4 p hp;have k7:=fun t ht=>List.all_eq_true.1 h7 t (List.mem_range.2 ht)
 refine⟨⟨XS h1,h3,fun p hp=>?_,h5,h6,fun p hp q hq hd=>?_,fun p hp k hk=>?_,fun p hp t ht hs=>Gs (List.all_eq_true.1 h9 p hp) TdB hs (by
  have:=k7 t hs;simp only[show ¬t<m by omega,fY,tz]at this;exact this),fun t o ho e he hb=>?_,h11⟩,⟨h2,fun t ht=>?_,fun t ht hs=>?_,oK h12⟩,fun p hp=>?_⟩
 ·have:=k4 p hp;simp only[eh,fk]at this;obtain⟨⟨q1,_⟩,q3⟩:=this;refine⟨q1,?_⟩;cases ho:ops[p.1]? with
  |none=>simp[ho]at q3
  |some o =>
   simp[ho]at q3;exact⟨o,rfl,q3.1,q3.2⟩
 ·have:=List.all_eq_true.1 (List.all_eq_true.1 h8 p hp) q hq;simpa[hd]using this
 ·have:=List.all_eq_true.1 (List.all_eq_true.1 h13 p hp) k hk;simp only[tG,beq_iff_eq,nh,eh]at this;rcases this with q|⟨q,hq,e,hd⟩
  ·exact .inl q
  exact .inr ⟨q,hq,e,hd⟩
 ·have:=List.all_eq_true.1 h10 t (List.mem_range.2 (Array.getElem?_eq_some_iff.1 ho).1);simp only[ho]at this;have:=Array.all_eq_true_iff_forall_mem.1 this e he;simpa[hb]using this
 ·have:=k7 t TcN;simp only[ht,ej,tG,nh,beq_iff_eq]at this;exact this
 ·have:=k7 t hs;simp only[show ¬t<m by omega,fY,tz]at this;exact this
 have:=k4 p hp;simp only[eh,fk,tz]at this;exact this.1.2
theorem u7(hw:Region.waitsFor md ops t i=true)(ht:t∈Region.ready md ops listed):listed.getD i false=true:=by
 obtain⟨ot,Mo,e,he,hb,hon⟩:=A5 hw;obtain⟨_,o,ho,hall⟩:=mem_ready.1 ht;rw[Mo]at ho;injection ho with ho;subst ho;have h1:=hall e he hb;rw[hon]at h1;exact h1
theorem pW(h:listed.getD i false=true):listed.getD i true=true:=by
 rcases mm i listed.size with h'|h'
 ·simp[h']at h ⊢;exact h
 simp[xp h']at h
theorem zX(hi:i<listed.size)(h:listed.getD i true=true):listed.getD i false=true:=by
 simp[hi]at h ⊢;exact h
theorem yA(hd:∀(t:Nat) (o:Oper),ops[t]?=some o->∀e∈o.after,Region.binds md e=true->e.on<t)(hs:listed.size=ops.size):∀t,t<ops.size->listed.getD t true=false->∃j,j∈Region.ready md ops listed:=by
 intro t;induction t using Nat.strongRecOn with
 |ind t ih =>
  intro ht hu;have ho:ops[t]?=some ops[t]:=aa0 ht;by_cases hall:∀e∈ops[t].after,Region.binds md e=true->listed.getD e.on false=true
  ·exact⟨t,mem_ready.2 ⟨hu,_,ho,hall⟩⟩
  simp only[Classical.not_forall]at hall;obtain⟨e,he,hb,hn⟩:=hall;have hlt:=hd t _ ho e he hb;refine ih e.on hlt TcN ?_;cases h:listed.getD e.on true with
  |false=>rfl
  |true=>exact absurd (zX TcN h) hn
theorem Bi(hp:p∈idx)(hn:(idx.map (·.1)).Nodup)(hu:listed.getD p.1 true=false)(hs:p.1<listed.size) :
  (idx.filter fun q=>!listed.getD q.1 true).length=(idx.filter fun q=>!(listed.setIfInBounds p.1 true).getD q.1 true).length+1:=by
 obtain⟨l1,l2,rfl⟩:=List.append_of_mem hp;rw[gl,iu,List.nodup_append]at hn;obtain⟨_,h2,h3⟩:=hn;rw[List.nodup_cons]at h2;have e1:l1.filter (fun q=>!(listed.setIfInBounds p.1 true).getD q.1 true)=l1.filter (fun q=>!listed.getD q.1 true):=A0 fun q hq=>by
  rw[ly true (fun e=>h3 q.1 (List.mem_map.2 ⟨q,hq,rfl⟩) p.1 (cG ..) e.symm)]
 have e2:l2.filter (fun q=>!(listed.setIfInBounds p.1 true).getD q.1 true)=l2.filter (fun q=>!listed.getD q.1 true):=A0 fun q hq=>by
  rw[ly true (fun e=>h2.1 (List.mem_map.2 ⟨q,hq,e.symm⟩))]
 have hp1:(listed.setIfInBounds p.1 true).getD p.1 true=true:=by simp[hs]
 rw[List.filter_append,List.filter_append,E1 (by simp only[hu];rfl),ae7 (by simp only[hp1];simp),e1,e2];simp only[cD,cS];omega
theorem oF{tl:List Oper}(hF:EH md ops m idx ag)(UZ:∀d w,C d w->S w)(hst:∀p∈idx,∀q∈idx,q.1≠p.1->∀(vs us:Nat->Value) w w',(∀k∈ag p.1,us k=vs k)->F p.1 vs w->Ev q.1 w w'->F p.1 us w')
  (hQ:∀c (t t':Array Value) w,Q (.panic c) { a0 with tmps:=t } w->Q (.panic c) { a0 with tmps:=t' } w) (gR:kA P ops Q F C Ev a0 idx idx) (nt:∀j,tl[j]?=ops[m+j]?) (NN:tl.length=ops.size-m)
  (OL:∀(vs:Nat->Value) (d:Nat->Bool) (w:World),C d w->(∀p∈idx,d p.1=true/\F p.1 vs w)->wpList P ops Q tl (over a0 idx vs) w) :
  ∀(r:Nat) (L:Array Bool) (vs:Nat->Value) (w:World),EL md ops m idx L->(idx.filter fun p=>!L.getD p.1 true).length=r->C (fun j=>L.getD j true) w->(∀p∈idx,L.getD p.1 true=true->F p.1 vs w) ->
   bG P md ops Q S (needs m ws) (r+tl.length) L (over a0 (idx.filter fun p=>L.getD p.1 true) vs) w:=by
 intro r;induction r with
 |zero =>
  intro L vs w hL hr hC hf;have hall:∀p∈idx,L.getD p.1 true=true:=fun p hp=>by
   have h0:=List.filter_eq_nil_iff.1 (fX hr) p hp;simpa only[Bool.not_eq_true,Bool.not_eq_false']using h0
  have ZH:L=Array.ofFn (n:=ops.size) fun t=>decide (t.1<m):=by
   apply Array.ext
   ·rw[hL.size,Array.size_ofFn]
   intro t h1 h2;rw[Array.getElem_ofFn];have hs:=hL.size;by_cases ht:t<m
   ·have:L.getD t true=true:=by
     rcases hL.head t ht with q|⟨p,hp,rfl⟩
     ·exact pW q
     exact hall p hp
    simpa[h1,ht]using this
   have:=hL.tail t TcN TcN;simpa[h1,ht]using this
  have e:idx.filter (fun p=>L.getD p.1 true)=idx:=List.filter_eq_self.2 hall;rw[e,eJ];exact gM tl m L _ w qJ nt (by rw[NN,ZH];exact hF.seq) (OL vs _ w hC fun p hp=>⟨hall p hp,hf p hp (hall p hp)⟩)
 |succ r ih =>
  intro L vs w hL hr hC hf;have hex:∃p∈idx,L.getD p.1 true=false:=by
   cases ML:idx.filter (fun p=>!L.getD p.1 true)with
   |nil=>rw[ML]at hr;simp at hr
   |cons p t =>
    have hp:p∈idx.filter (fun p=>!L.getD p.1 true):=by rw[ML];exact cG ..
    have hp2:=List.mem_filter.1 hp;exact⟨p,hp2.1,by simpa only[tz]using hp2.2⟩
  obtain⟨p0,hp0,hu0⟩:=hex;rw[show r+1+tl.length=(r+tl.length)+1 by omega];refine⟨fun h0=>?_,fun i hi=>?_⟩
  ·obtain⟨j,hj⟩:=yA hF.down hL.size p0.1 (cC (hF.op p0 hp0).1 hF.le) hu0;rw[h0]at hj;cases hj
  have ZI:i<m:=(mm i m).elim id fun h=>absurd hi (nW hL.clo (hF.late p0 hp0 i h (mV hi)) hu0)
  have OM:=(mem_ready.1 hi).1;obtain⟨p,hp,rfl⟩:∃p∈idx,p.1=i:=(hL.head i ZI).resolve_left fun q=>by rw[pW q]at OM;cases OM
  obtain⟨_,o,ho,hg,U0⟩:=hF.op p hp;have OO:∀q∈idx,mI ops p.1 q=true->L.getD q.1 true=true:=fun q hq hd=>pW (u7 (hF.dep p hp q hq hd) hi);have H:=gR.at p hp o ho vs _ w OM hC fun q hq=>⟨OO q (List.mem_filter.1 hq).1 (List.mem_filter.1 hq).2,hf q (List.mem_filter.1 hq).1 (OO q (List.mem_filter.1 hq).1 (List.mem_filter.1 hq).2)⟩;have nd:∀f:Nat × Nat->Bool,((idx.filter f).map (·.2)).Nodup:=fun f=>(List.Sublist.map _ List.filter_sublist).nodup hF.n2
  have he:execOp (over a0 (idx.filter fun p=>L.getD p.1 true) vs).eval o=execOp (over a0 (idx.filter (mI ops p.1)) vs).eval o:=execOp_congr o (fun cs b=>hF.sel p.1 o cs b ho) fun x hx=>by
   cases x with
   |tmp t =>
    by_cases hq:∃q∈idx,q.2=t
    ·obtain⟨q,hq,rfl⟩:=hq;have hd:mI ops p.1 q=true:=by
      simp only[mI,ho,List.contains_iff_mem];exact ju _ (List.mem_filterMap.2 ⟨.tmp q.2,TdO,rfl⟩)
     rw[zN _ vs q _ (nd _) (List.mem_filter.2 ⟨hq,OO q hq hd⟩),zN _ vs q _ (nd _) (List.mem_filter.2 ⟨hq,hd⟩)]
    rw[mE _ vs t _ fun q hq' e=>hq ⟨q,(List.mem_filter.1 hq').1,e⟩,mE _ vs t _ fun q hq' e=>hq ⟨q,(List.mem_filter.1 hq').1,e⟩]
   |_=>rfl
  have hw:Region.wanted o (yielded ops (over a0 (idx.filter fun p=>L.getD p.1 true) vs).tmps)=true:=by simp[Region.wanted,hg]
  unfold wpOp;simp only[ho,hw,ej];refine .inl ?_;have H2:=Ck (a:=over a0 (idx.filter fun p=>L.getD p.1 true) vs) he (by rw[uo,uo]) (fun c w h=>by rw[xm]at h ⊢;exact hQ _ _ _ _ h) H;refine Oper.wp_mono (fun a' w'=>?_) H2;rintro⟨v,rfl,hC',ZJ,ZK⟩;have hs:p.1<L.size:=by rw[hL.size];exact mV hi
  have key0:∀j:Nat,(L.setIfInBounds p.1 true).getD j true=(L.getD j true||j==p.1):=fun j=>by
   by_cases e:j=p.1
   ·rw[e];simp[hs]
   rw[ly true (Ne.symm e)];simp[e]
  have key:∀q:Nat × Nat,(L.setIfInBounds p.1 true).getD q.1 true=(L.getD q.1 true||q.1==p.1):=fun q=>key0 q.1;refine⟨fun _=>UZ _ _ hC',?_⟩
  have e2:(over a0 (idx.filter fun p=>L.getD p.1 true) vs).put o.dst v=over a0 (idx.filter fun q=>(L.setIfInBounds p.1 true).getD q.1 true) (fun k=>if k=p.1 then v else vs k):=by
   rw[U0,A0 fun q _=>key q];exact(BK vs p v (fun k=>L.getD k true) OM idx a0 hF.n2 hF.n1 hp).symm
  rw[e2];refine ih _ _ w' ⟨by simp[hL.size],fun t ht=>?_,fun t ht OP=>?_,hL.clo.set hi⟩ ?_ (by rw[funext key0];exact hC') (fun q hq X1=>?_)
  ·rcases hL.head t ht with q|q
   ·exact .inl (getD_set_true q)
   exact .inr q
  ·rw[ly true TcN];exact hL.tail t ht OP
  ·have:=Bi hp hF.n1 OM hs;omega
  by_cases e:q.1=p.1
  ·rw[e];exact ZK
  have QI:L.getD q.1 true=true:=by
   rw[key q]at X1;simpa[e]using X1
  refine hst q hq p hp (fun e'=>e e'.symm) vs _ w w' (fun k hk=>?_) (hf q hq QI) ZJ;refine bh fun ek=>?_;rcases hF.agr q hq k hk with q1|⟨r,hr,er,hdr⟩
  ·exact e (q1.symm.trans ek)
  obtain⟨oq,ZL,e2,he2,hb2,U1⟩:=A5 (hF.dep q hq r hr hdr);have hqs:q.1<L.size:=by rw[hL.size];exact cC (hF.op q hq).1 hF.le
  have:=hL.clo q.1 oq ZL (zX hqs QI) e2 he2 hb2;rw[U1,er,ek]at this;rw[pW this]at OM;cases OM
theorem fE(ag:Nat->List Nat)(F:Nat->(Nat->Value)->World->Prop)(C:(Nat->Bool)->World->Prop)(Ev:Nat->World->World->Prop){w0:World}
  (hB:zF md l.toArray m idx ag listed=true) (QJ:fuel=idx.length+(l.drop m).length) (UZ:∀d w,C d w->S w) (hst:∀p∈idx,∀q∈idx,q.1≠p.1->∀(vs us:Nat->Value) w w',(∀k∈ag p.1,us k=vs k)->F p.1 vs w->Ev q.1 w w'->F p.1 us w')
  (hQ:∀c (t t':Array Value) w,Q (.panic c) { a0 with tmps:=t } w->Q (.panic c) { a0 with tmps:=t' } w) (hC:C (fun j=>listed.getD j true) w0) (gR:kA P l.toArray Q F C Ev a0 idx idx)
  (OL:∀(vs:Nat->Value) (d:Nat->Bool) (w:World),C d w->(∀p∈idx,d p.1=true/\F p.1 vs w)->wpList P l.toArray Q (l.drop m) (over a0 idx vs) w) :
  bG P md l.toArray Q S (needs m ws) fuel listed a0 w0:=by
 obtain⟨h1,h2,h3⟩:=xQ hB;have hr:(idx.filter fun p=>!listed.getD p.1 true).length=idx.length:=by
  rw[List.filter_eq_self.2 fun p hp=>by rw[h3 p hp];rfl]
 have:=oF (ws:=ws) (S:=S) h1 UZ hst hQ gR (fun j=>by simp[pk]) TcO OL idx.length listed (fun _=>undef) w0 h2 hr hC (fun p hp h=>by rw[h3 p hp]at h;cases h);rw[QJ];have e:idx.filter (fun p=>listed.getD p.1 true)=[]:=List.filter_eq_nil_iff.2 fun p hp=>by rw[h3 p hp];simp
 rw[e]at this;exact this
end
theorem aS:(∀(a:Act) (v:Value),a.put none v=a)/\(∀(a:Act) (t:Nat) (v:Value),a.put (some t) v=⟨a.tmps.setIfInBounds t v,a.defers⟩)/\(∀(l:List Value) (i:Nat) (x:Value),l.toArray.setIfInBounds i x=(l.set i x).toArray)/\(∀(a b:Value) (l:List Value),(a::l).set 0 b=b::l)/\(∀(a b:Value) (l:List Value) (i:Nat),(a::l).set (i+1) b=a::l.set i b):=⟨fun _ _=>rfl,fun _ _ _=>rfl,fun _ _ _=>by simp,fun _ _ _=>rfl,fun _ _ _ _=>rfl⟩
theorem ak:(∀(a:Act) (t:Nat) (v:Value),a.put (some t) v=⟨a.tmps.setIfInBounds t v,a.defers⟩)/\(∀(l:List Value) (i:Nat) (x:Value),l.toArray.setIfInBounds i x=(l.set i x).toArray)/\(∀(a b:Value) (l:List Value),(a::l).set 0 b=b::l)/\(∀(a b:Value) (l:List Value) (i:Nat),(a::l).set (i+1) b=a::l.set i b):=⟨fun _ _ _=>rfl,fun _ _ _=>by simp,fun _ _ _=>rfl,fun _ _ _ _=>rfl⟩
section
variable {P:Program} {ops:Array Oper} {Q:Exit->Act->World->Prop} {md:Region.Mode} {S:World->Prop} {N:Nat->Bool} {d:Tmp} {oi:Oper} {v:Value} {fuel:Nat} {listed:Array Bool} {a:Act} {w:World}
variable {a':Act}
theorem fz  (i:Nat) (h:bG P md ops Q S N fuel (listed.setIfInBounds i true) a' w) (hi:ops[i]?=some oi:=by rfl) (hd:oi.dst=some d:=by rfl) (hb:(Region.noSelect ops&&Region.free md ops listed i&&(Region.ready md ops listed).contains i&&!N i)=true:=by kernel_rfl) (hg:Region.wanted oi (yielded ops a.tmps)=true:=by rfl) (hy:∀w,(fun _=>True) w->(execOp a.eval oi).run P w=.ok (.value v) w:=by(intro w _;go_simp;(try(with_reducible rfl)))) (hQ:∀c a w,Q (.panic c) (a.put (some d) v) w->Q (.panic c) a w:=by exact fun _ _ _ h=>h) (ha:a.put (some d) v=a':=by(try simp only[ak]);(try exact rfl)):bG P md ops Q S N (fuel+1) listed a w:=nz hi hd hb hQ (Or.inl ⟨hg,hy⟩) TdA
theorem gC  (hQ:∀c (a:Act) (d:Tmp) (v:Value) w,Q (.panic c) (a.put (some d) v) w->Q (.panic c) a w) (i:Nat) (h:bG P md ops Q S N fuel (listed.setIfInBounds i true) a' w) (hi:ops[i]?=some oi:=by rfl) (hd:oi.dst=some d:=by rfl) (hb:(Region.noSelect ops&&Region.free md ops listed i&&(Region.ready md ops listed).contains i&&!N i)=true:=by kernel_rfl) (hg:Region.wanted oi (yielded ops a.tmps)=true:=by rfl) (hy:∀w,(fun _=>True) w->(execOp a.eval oi).run P w=.ok (.value v) w:=by(intro w _;go_simp;(try(with_reducible rfl)))) (ha:a.put (some d) v=a':=by(try simp only[ak]);(try exact rfl)):bG P md ops Q S N (fuel+1) listed a w:=nz hi hd hb (fun _ _ _ h=>hQ _ _ _ _ _ h) (Or.inl ⟨hg,hy⟩) TdA
theorem fS  (i:Nat) (hS:S w) (h:bG P md ops Q S N fuel (listed.setIfInBounds i true) a' w) (hi:ops[i]?=some oi:=by rfl) (hd:oi.dst=some d:=by rfl) (hb:(Region.noSelect ops&&Region.free md ops listed i&&(Region.ready md ops listed).contains i&&lM md ops N listed i&&BF md ops listed)=true:=by kernel_rfl) (hg:Region.wanted oi (yielded ops a.tmps)=true:=by rfl) (hy:∀w,S w->(execOp a.eval oi).run P w=.ok (.value v) w:=by(intro w hSw;(try dsimp only at hSw);go_simp;(try(with_reducible rfl)))) (hQ:∀c a w,Q (.panic c) (a.put (some d) v) w->Q (.panic c) a w:=by exact fun _ _ _ h=>h) (ha:a.put (some d) v=a':=by(try simp only[ak]);(try exact rfl)):bG P md ops Q S N (fuel+1) listed a w:=o7 hi hd hb hQ (Or.inl ⟨hg,hy⟩) hS TdA
theorem cH  (hQ:∀c (a:Act) (d:Tmp) (v:Value) w,Q (.panic c) (a.put (some d) v) w->Q (.panic c) a w) (i:Nat) (hS:S w) (h:bG P md ops Q S N fuel (listed.setIfInBounds i true) a' w) (hi:ops[i]?=some oi:=by rfl) (hd:oi.dst=some d:=by rfl) (hb:(Region.noSelect ops&&Region.free md ops listed i&&(Region.ready md ops listed).contains i&&lM md ops N listed i&&BF md ops listed)=true:=by kernel_rfl) (hg:Region.wanted oi (yielded ops a.tmps)=true:=by rfl) (hy:∀w,S w->(execOp a.eval oi).run P w=.ok (.value v) w:=by(intro w hSw;(try dsimp only at hSw);go_simp;(try(with_reducible rfl)))) (ha:a.put (some d) v=a':=by(try simp only[ak]);(try exact rfl)):bG P md ops Q S N (fuel+1) listed a w:=o7 hi hd hb (fun _ _ _ h=>hQ _ _ _ _ _ h) (Or.inl ⟨hg,hy⟩) hS TdA
end
variable {a b:List Int}{w:World}{Gb:List az}{p:List (ByteArray × Int × Int)}{X:Nat->Prop}{bs bb:Nat}{nv vv:Value}{g:af}
theorem lR{P:Program} {ops:Array Oper} {Q:Exit->Act->World->Prop} {md:Region.Mode} {S:World->Prop} {N:Nat->Bool} {o:Oper} {fuel:Nat} {listed:Array Bool} {a:Act}  (i:Nat) (h:∀K:Act->World->Prop,Go.RowKit.Hid (∀a' w',S w'->bG P md ops Q S N fuel (listed.setIfInBounds i true) a' w'->K a' w')->o.wp P a w K Q) (hi:ops[i]?=some o:=by rfl) (hw:o.guard=none:=by rfl) (hr:Region.ready md ops listed=[i]:=by kernel_rfl):bG P md ops Q S N (fuel+1) listed a w:=au hi hw hr h
def es:ByteArray:=⟨#[]⟩
def dE(n:Int)(on:ByteArray)(s:Int):aB:=⟨0,n,1,[⟨false,on,s⟩],0,[],es,es,0,0,0⟩
def eD(name:ByteArray)(id:Int)(hidden:Bool)(n:Int)(on:ByteArray)(s:Int):ay:=⟨name,id,hidden,false,[],[dE n on s]⟩
inductive fZ (Gb:List az):List Int->List (ByteArray × Int × Int)->List Int->Prop
 |nil (next:List Int):fZ Gb next [] next
 |snoc {next next1:List Int} {ps:List (ByteArray × Int × Int)} {d:Nat} {D:az} {m s n:Int} (h:fZ Gb next ps next1) (hd:Gb[d]?=some D) (hm:next1[d]?=some m) (h1:m<=s) (h2:s+n<=D.Gc) (h3:1<=n):fZ Gb next (ps++[(D.name,s,n)]) (next1.set d (s+n))
theorem fZ.trans{c:List Int}{q:List (ByteArray × Int × Int)}(h:fZ Gb a p b)(k:fZ Gb b q c):fZ Gb a (p++q) c:=by
 induction k with
 |nil=>simpa using h
 |snoc k hd hm h1 h2 h3 ih =>
  rw[<- cV];exact .snoc ih hd hm h1 h2 h3
structure DOk(Gb:List az)(next:List Int):Prop where
 len:next.length=Gb.length
 pos:0<Gb.length
 le:Gb.length<=8
 ext:∀D∈Gb,0<=D.Gc/\D.Gc<=1000
 nx:∀(d:Nat) (m:Int),next[d]?=some m->0<=m/\m<=1000
theorem fZ.ok(h:fZ Gb a p b)(k:DOk Gb a):DOk Gb b:=by
 induction h with
 |nil=>exact k
 |@snoc next1 ps d D m s n h hd hm h1 h2 h3 ih =>
  refine⟨by simp[ih.len],ih.pos,ih.le,ih.ext,fun e x hx=>?_⟩;rw[List.getElem?_set]at hx;split at hx
  ·split at hx
   ·injection hx with hx;have:=ih.nx d m hm;have:=ih.ext D (ct hd);omega
   cases hx
  exact ih.nx e x hx
structure BOk(g:af)(next:List Int):Prop where
 dk:DOk g.Gb next
 n0:0<=g.next
 n1:g.next<=100000
 vl:g.F9.length<=100
def Fz(w:World)(vv:Value)(n:Nat):Prop:=∃vb vc sb,vv=.slice (some ⟨vb,0,none⟩) (n+1) vc/\w.cell? ⟨vb,n*6+5,none⟩=some (.slice (some ⟨sb,0,none⟩) 1 1)
def F3(X:Nat->Prop)(bs bb:Nat)(nv vv:Value)(g:af)(next:List Int)(name:ByteArray)(hidden:Bool)(n:Int)(w:World)(e:Ending)(w':World):Prop :=
 (e=.returned (.bool false)/\aH X bs bb nv vv w w' nv vv { g with next:=g.next+1 } next) \/
 ∃(on:ByteArray) (s:Int) (next':List Int) (pA:Value),fZ g.Gb next [(on,s,n)] next'/\e=.returned (.bool true) /\
  aH X bs bb nv vv w w' nv pA { g with next:=g.next+1,F9:=g.F9++[eD name (oX g.id (g.next+1)) hidden n on s] } next'/\Fz w' pA g.F9.length
def fD(X:Nat->Prop)(L:Nat):Nat->Prop:=fun k=>X k\/k=L
theorem CU{o:Obj}{L:Nat}(hL:L=w.heap.size):∀k,fD X L k->X k\/(w.heap.size<=k/\k<(w.alloc o).heap.size):=by
 rintro k (h|rfl)
 ·exact .inl h
 exact .inr ⟨TcN,TcS⟩
theorem ae(w:World)(o:Obj):Below w.heap.size w (w.alloc o):=(bj _ _).alloc (bk _) _
theorem qM{b:Nat}(hb:b<w.heap.size)(o p q:Obj):(((w.alloc o).alloc p).alloc q).heap[b]?=w.heap[b]?:=by
 rw[cj _ _ _ TcS,cj _ _ _ TcS,cj _ _ _ hb]
theorem eW.c7{next:List Int}(h:eW X w bs bb nv vv g next):∃p ir,w.cell? (Tac bb 7)=some (.slice p g.Gb.length ir)/\g.Gb.length<=ir/\ir<=9223372036854775807:=by
 obtain⟨tv,dv,hv,e,_,h2,_⟩:=h.blk;obtain⟨p,ir,ed,k1,k2,k3⟩:=h2;simp only[rp,and_true]at ed;subst ed;exact⟨p,ir,cr e _ _ rfl,k1,k2⟩
theorem Tcn{p:Prop}(h:p:=by
 obtain⟨tv,dv,hv,e,_,h2,_⟩:=h.blk;simp[World.cell?,e]):p:=h
theorem eW.c8{next:List Int}(h:eW X w bs bb nv vv g next):w.cell? (Tac bb 8)=some vv:=by
 exact Tcn
theorem eW.bfr{next:List Int}(h:eW X w bs bb nv vv g next)(i:Nat):w.frozen? (bb,i)=false:=by
 obtain⟨tv,dv,hv,e,_,h2,_⟩:=h.blk;simp[World.frozen?,e]
def TaF(x0:ByteArray)(x1:Int)(x2:Bool)(x3:Option Addr):Tab #[.string x0,.int .u64 x1,.bool x2,.bool false,.slice none 0 0,.slice x3 1 1]:=⟨⟩
theorem TcT{p:Prop}(h:p:=by rfl):p:=h
theorem Tc0{p:Prop}(h:p:=by simp[Value.oneCell']):p:=h
theorem qw(X:Nat->Prop)(bs bb:Nat)(nv vv:Value)(g:af)(next:List Int)(w:World)(h:eW X w bs bb nv vv g next)(hk:BOk g next)(name:ByteArray)(hidden:Bool)(d0:Nat)(n:Int)(hd0:d0<=100)(hn0:1<=n)(hn1:n<=1000000) :
  Calls prog 14 #[.pointer (some bb),.string name,.bool hidden,.int .i64 d0,.int .i64 n] w (F3 X bs bb nv vv g next name hidden n w):=by
 have k0:=hk.n0;have k1:=hk.n1;have k2:=hk.dk.pos;have k3:=hk.dk.le;have k4:=hk.vl;go_enter func14,ntmps14
 go_wp2_with fail;refine(vS X bs bb nv vv g next _ h TcN TcN).mono ?_;rintro e w1 ⟨rfl,P1⟩;generalize hid:oX g.id (g.next+1)=mz;have Mp:=aa hid;clear hid;go_wp2;have P2:=P1.fresh (Y:=fD X w1.heap.size) (ae w1 (.cells #[.string name,.int .u64 mz,.bool hidden,.bool false,.slice none 0 0,.slice none 0 0] 57)) (CU rfl);have HL:=aa (b9 w1 (.cells #[.string name,.int .u64 mz,.bool hidden,.bool false,.slice none 0 0,.slice none 0 0] 57));have TP:=P1.mod.size;generalize hL:w1.heap.size=L at *;have ZM:=aa hL;clear hL;go_loopw[12] (fun i wr=>∃k:Nat,k<=g.Gb.length/\i=.int .i64 k/\aH (fD X L) bs bb nv vv w wr nv vv { g with next:=g.next+1 } next/\wr.heap[L]?=some (.cells #[.string name,.int .u64 mz,.bool hidden,.bool false,.slice none 0 0,.slice none 0 0] 57 (0,0))) (fun i _=>g.Gb.length-(intOf i).toNat)
 exact⟨0,TcN,rfl,P2,HL.o⟩;obtain⟨k,Tt,rfl,P,K0⟩:=hrel;have NQ:=aa K0;clear K0;obtain⟨dp,ir,c7,l1,l2⟩:=P.bld.c7;simp only at c7 l1;by_cases hlt:k<g.Gb.length
 ·have oY:((d0:Int)+(k:Int))%(g.Gb.length:Int)=(((d0+k)%g.Gb.length:Nat):Int):=by simp
  have CD:(d0+k)%g.Gb.length<g.Gb.length:=Nat.mod_lt _ k2;generalize hd:(d0+k)%g.Gb.length=d at *;have ZN:=aa hd;clear hd;obtain⟨D,hD⟩:=aj g.Gb d CD;obtain⟨m,hm⟩:=aj next d (by rw[hk.dk.len];exact CD);have QK:=hk.dk.nx d m hm;have HD:=aa hD;clear hD;have HM:=aa hm;clear hm;go_wp2_with fail;refine(qR (fD X L) bs bb nv vv _ next _ P.bld d D m n HD.o HM.o QK.1 TcN TcN hn1).mono ?_;rintro e w2 (⟨rfl,Q,_⟩|⟨s,hs1,hs2,rfl,Q,_⟩)
  ·go_wp2;go_roundw;exact⟨k+1,TcN,TcR,(P.trans Q).after (ae _ _),(cj _ _ _ (by have:=Q.mod.size;have:=aq NQ.o;omega)).trans ((Q.loc P.bld (.inr rfl)).trans NQ.o)⟩;simp[intOf];omega
  have R2:=P.trans Q;have TQ:=aa ((Q.loc P.bld (.inr rfl)).trans NQ.o);have MM:L<w2.heap.size:=aq TQ.o;have ZO:∀o p q,(((w2.alloc o).alloc p).alloc q).cell? (Tac L 5)=some (.slice none 0 0):=fun o p q=>by simp[World.cell?,qM MM,TQ.o]
  have ZP:∀o p q,(((w2.alloc o).alloc p).alloc q).frozen? (Tac L 5)=false:=fun o p q=>by simp[World.frozen?,qM MM,TQ.o]
  go_wp2;clear ZO ZP;generalize hW:World.setCell (World.alloc (World.alloc (World.alloc w2 _) _) _) _ _=W;have R4:aH (fD X L) bs bb nv vv w W nv vv { g with next:=g.next+1 } (next.set d (s+n)):=by
   rw[<- hW];exact(((R2.after (ae _ _)).after (ae _ _)).after (ae _ _)).put L 5 _ (.inr rfl) TP
  have U2:W.heap[L]?=some (.cells (TaF name mz hidden (some ⟨w2.heap.size+1+1,0,none⟩)) 57 (0,0)):=by
   rw[<- hW];exact block_setCell (cs:=#[_,_,_,_,_,_]) (i:=5) _ ((qM MM _ _ _).trans TQ.o)
  have DA:W.heap[w2.heap.size+1]?=some (.cells [.bool false,.string D.name,.int .i64 s].toArray 83 (0,0)):=by
   rw[<- hW,bw _ _ _ _ TcS,cj _ _ _ TcO];have:=b9 (w2.alloc (.cells (Tas D.name s) 83)) (.cells (Tas D.name s) 83);rw[cW]at this;exact this
  have X2:W.heap[w2.heap.size+1+1]?=some (.cells [.int .i64 0,.int .i64 n,.int .i64 1,.slice (some (Tac (w2.heap.size+1) 0)) 1 1,.int .i64 0,.slice none 0 0,.string es,.string es,.int .i64 0,.int .i64 0,.int .i64 0].toArray 88 (0,0)):=by
   rw[<- hW,bw _ _ _ _ TcS];have:=b9 ((w2.alloc (.cells (Tas D.name s) 83)).alloc (.cells (Tas D.name s) 83)) (.cells #[.int .i64 0,.int .i64 n,.int .i64 1,.slice (some (Tac (w2.heap.size+1) 0)) 1 1,.int .i64 0,.slice none 0 0,.string es,.string es,.int .i64 0,.int .i64 0,.int .i64 0] 88);rw[cW,cW]at this;exact this
  have RV:aN (okB (fD X L) bb nv vv) W [.string name,.int .u64 mz,.bool hidden,.bool false,.slice none 0 0,.slice (some (Tac (w2.heap.size+1+1) 0)) 1 1] (eD name mz hidden n D.name s) :=
   ⟨_,_,rfl,b6.nil,b6.one X2 (R2.bld.okNew TcN) rfl ⟨_,_,rfl,b6.one DA (R2.bld.okNew TcN) rfl rfl,b6.nil⟩⟩
  clear hW DA X2;obtain⟨i0,hi,hz0,hz1,hz2⟩:=gg zT;have HI:=aa hi;clear hi;have H0:=aa hz0;clear hz0;have H1:=aa hz1;clear hz1;have H2:=aa hz2;clear hz2;have cX:=R4.bld.Gj;have U3:bb<L:=by have:=h.Gj;omega
  have q8:W.cell? (Tac bb 8)=some vv:=R4.bld.c8;have qL:=cr U2;have hne1:bb≠L:=by omega
  have hne2:L≠bb:=by omega
  have qf:W.frozen? (Tac bb 8)=false:=R4.bld.bfr 8;obtain⟨q0,q1,q2,q3,q4,q5⟩:=sv6 qL;have ZQ:=aa qL;clear qL;have ZR:=aa U2;clear U2;have HK:=aa (fun(W1 W2:World) (gb cap:Nat) hb hp=>R4.bld.pushKeeps (N:=W.heap.size) (p:=eD name mz hidden n D.name s) (u:=[.string name,.int .u64 mz,.bool hidden,.bool false,.slice none 0 0,.slice (some (Tac (w2.heap.size+1+1) 0)) 1 1]) (w1:=W1) (w2:=W2) (gb:=gb) (cap:=cap) hb hp);have QL:=aa (R4.bld.ready RV);have ZT:=aa (fun(W1 W2:World) (gb cap:Nat) hb hp=>R4.push (N:=W.heap.size) (p:=eD name mz hidden n D.name s) (u:=[.string name,.int .u64 mz,.bool hidden,.bool false,.slice none 0 0,.slice (some (Tac (w2.heap.size+1+1) 0)) 1 1]) (w1:=W1) (w2:=W2) (gb:=gb) (cap:=cap) hb hp (bk _));refine aZ (fun w'=>w'.cell? (Tac bb 8)=some vv/\w'.cell? L=some (.string name)/\w'.cell? (Tac L 1)=some (.int .u64 mz)/\w'.cell? (Tac L 2)=some (.bool hidden)/\w'.cell? (Tac L 3)=some (.bool false)/\w'.cell? (Tac L 4)=some (.slice none 0 0)/\w'.cell? (Tac L 5)=some (.slice (some (Tac (w2.heap.size+1+1) 0)) 1 1)) 8 [0,1,2,3,4] TcP (by simp[q8,q0,q1,q2,q3,q4,q5]) (fun hHeld=>?_);refine fz 0 ?_;refine fz 1 ?_;refine fz 2 ?_;refine fz 3 ?_;refine fz 4 ?_;refine fS 5 hHeld ?_;refine fS 6 hHeld ?_;refine lR 7 fun K hK=>?_;go_simp;have jn:Below W.heap.size W ((W.alloc (.cells (TaF name mz hidden (some ⟨w2.heap.size+1+1,0,none⟩)) 57)).drew):=(ae _ _).drew
  have QM:∀(j:Nat) (y:Value),[Value.string name,.int .u64 mz,.bool hidden,.bool false,.slice none 0 0,.slice (some (Tac (w2.heap.size+1+1) 0)) 1 1][j]?=some y->((W.alloc (.cells (TaF name mz hidden (some ⟨w2.heap.size+1+1,0,none⟩)) 57)).drew).cell? ⟨W.heap.size,j,none⟩=some y:=fun j y hy=>by
   show(W.alloc _).cell? _=_;exact aD rfl Tc6
  have mA:W.heap.size+1=((W.alloc (.cells (TaF name mz hidden (some ⟨w2.heap.size+1+1,0,none⟩)) 57)).drew).heap.size:=by simp
  have X3:∀w':World,w'.heap[bb]?=W.heap[bb]?->w'.heap[L]?=W.heap[L]?->w'.cell? (Tac bb 8)=some vv/\w'.cell? L=some (.string name)/\w'.cell? (Tac L 1)=some (.int .u64 mz)/\w'.cell? (Tac L 2)=some (.bool hidden)/\w'.cell? (Tac L 3)=some (.bool false)/\w'.cell? (Tac L 4)=some (.slice none 0 0)/\w'.cell? (Tac L 5)=some (.slice (some (Tac (w2.heap.size+1+1) 0)) 1 1):=fun w' e1 e2 =>
   ⟨(cd (w:=W) e1).trans q8,(cd (w:=W) e2).trans q0,(cd (w:=W) e2).trans q1,(cd (w:=W) e2).trans q2,(cd (w:=W) e2).trans q3,(cd (w:=W) e2).trans q4,(cd (w:=W) e2).trans q5⟩
  generalize hW1:(W.alloc (.cells (TaF name mz hidden (some ⟨w2.heap.size+1+1,0,none⟩)) 57)).drew=W1 at *;clear hW1;refine hK.o _ _ (X3 _ (jn.block bb cX) (jn.block L (aq ZR.o))) ?_;clear hK K;refine aP TcP rfl ?_;simp only[cQ,cL];refine dX aN.moves underlying29 HI.o H0.o H1.o H2.o rfl TcQ TcQ rfl _ _ TcT (bb+1) (fun b=>okB (fD X L) bb nv vv b/\b<W.heap.size) vv g.F9 (eD name mz hidden n D.name s) TcT (QL.o _ jn).1 W.heap.size 1 [.string name,.int .u64 mz,.bool hidden,.bool false,.slice none 0 0,.slice (some (Tac (w2.heap.size+1+1) 0)) 1 1] TcT TcT (QL.o _ jn).2 Tc0 QM TcN TcN H8 (fun gb cap w3 hp=>?_);obtain⟨hx1,hx2⟩:=HK.o _ w3 gb cap jn hp;have y8:=(cd (w:=W) (w':=w3) (a:=⟨bb,8,none⟩) hx1).trans q8;have yf:=(rh (w:=W) (w':=w3) (a:=⟨bb,8,none⟩) hx1).trans qf;have R5:=ZT.o _ w3 gb cap jn hp;have NR:=hp.last 5 _ rfl;have QN:=aa NR;clear NR;have cJ:=aa hx1;have hgb:gb≠bb:=by
   rintro rfl;obtain⟨cs,ho,_⟩:=hp.own;have:=(ho.lt gb rfl).1;omega
  clear hp hx1 hx2 X3 QM;simp only[aS];go_wp2;go_ret;have hv:=Mp.o;subst hv;refine .inr ⟨D.name,s,_,_,.snoc (.nil _) HD.o HM.o hs1 hs2 hn0,rfl,R5.fewer (fun k hk=>.inl hk),gb,cap,w2.heap.size+1+1,rfl,?_⟩;exact(cd (w:=w3) (bw _ _ _ _ hgb)).trans QN.o
 go_wp2;go_ret;exact .inl ⟨rfl,P.fewer (fun k hk=>.inl hk)⟩
end Go.Proofs.YtillcmhjhajimaaGreatDoor
