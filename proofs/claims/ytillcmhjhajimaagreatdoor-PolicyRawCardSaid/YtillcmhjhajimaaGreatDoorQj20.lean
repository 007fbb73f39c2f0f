/- Lemmas: PolC, PolD, PolE, MoJ, MoS. -/
import Derived.Test.YtillcmhjhajimaaGreatDoorQj19
set_option maxRecDepth 100000
set_option maxHeartbeats 32000000
set_option linter.all false
namespace Go.Proofs.YtillcmhjhajimaaGreatDoor
open Go.Proofs.Tryz
open Go.RowKit Go.Maps Go.Shelf
variable {B k B' b Bj Bd nc tc:Nat}{w w':World}{v:Value}{l:List aR}{cs:Array Value}{z:Nat × Nat}{xs:List (List (Int × Int))}{x:List (Int × Int)}{r:aY}{np jp tp:Option Addr}{nl jl:List ByteArray}{d:az}
def iC(B:Nat)(w:World)(v:Value)(l:List aR):Prop:=bF aQ 3 83 B (fun _=>False) w v l
theorem iC.nil(B:Nat)(w:World):iC B w (.slice none 0 0) []:=⟨[],gS _ _ _ 3,rfl⟩
theorem iC.keep(h:iC B w v l)(hz:w.heap.size<=w'.heap.size)(hk:∀k,v.ownBlock=some k->w'.heap[k]?=w.heap[k]?):iC B w' v l:=by
 obtain⟨cs,ho,hf⟩:=h;exact⟨cs,aC ho hk,Flat.moves aQ.moves ⟨hz,fun b _ f=>f.elim⟩ _ _ hf⟩
theorem iC.below(h:iC B w v l)(hb:Below w.heap.size w w'):iC B w' v l:=by
 exact Tcg
theorem iC.notSeg(h:iC B w v l)(hk:w.heap[k]?=some (.cells cs 88 z)):v.ownBlock≠some k:=fun e=>by
 obtain⟨_,ho,_⟩:=h;rcases ho.2 with⟨rfl,_⟩|⟨g,cap,cur,rfl,_,hgg,_⟩
 ·cases e
 obtain rfl:g=k:=by injection e
 rw[hk]at hgg;injection hgg with hgg;injection hgg with _ hgg _
 cases hgg
theorem iC.ge(h:iC B w v l)(e:v.ownBlock=some k):B<=k/\k<w.heap.size:=by
 exact Tcs
theorem iC.mono(h:iC B w v l)(hB:B'<=B):iC B' w v l:=by
 obtain⟨cs,⟨h1,h2⟩,hf⟩:=h;refine⟨cs,⟨h1,?_⟩,hf⟩;exact TcD
def kJ(s:aB)(a:aR):aR:=⟨false,a.on,a.start+iB s.kind s.length s.Ga.length⟩
theorem rF(Q:Exit->Act->World->Prop){c0 c1 c2 c3 c4 c5 c6 c9 c11 c12 c13 c14 c15 c16 c17 c18 c19 c20 c21 c22 c23 c24 c25 c26 c27 c28 c29 c30 c31 c32 c33 c34 c35 c36 c37 c38 c39 c40 c41 c42 c43 c44 c45 c46 c47 c48 c49 c50 c51 c52 c53 c54 c55 c56 c57 c58 c59:Value}(w:World)(B Bs Ba:Nat)(ap eN:Option Addr)(ac eR:Nat)(s:aB)(a:aR)(v8:Value)(l:List aR)
  (hB:B<=w.heap.size) (Q1:s.Ga.length<=1000) (Rn:l.length<=100000) (hlen:0<=s.length/\s.length<=1000000) (hst:0<=a.start/\a.start<=1000000)
  (hs:w.heap[Bs]?=some (.cells (Tae s ap ac eN eR) 88 (0,0))) (Sr:Ba<w.heap.size) (ha1:w.cell? (Tac Ba 1)=some (.string a.on)) (ha2:w.cell? (Tac Ba 2)=some (.int .i64 a.start))
  (hO:iC B w v8 l)
  (HK:Hid (∀(v':Value) (w':World) (u47 u48 u49 u50 u51 u52 u53 u54 u55 u56 u57:Value),iC B w' v' (l++[kJ s a])->Below B w w'->w'.heap[Bs]?=w.heap[Bs]?->Q .normal ⟨#[c0,c1,c2,c3,c4,c5,c6,.pointer (some Bs),v',c9,.pointer (some Ba),c11,c12,c13,c14,c15,c16,c17,c18,c19,c20,c21,c22,c23,c24,c25,c26,c27,c28,c29,c30,c31,c32,c33,c34,c35,c36,c37,c38,c39,c40,c41,c42,c43,c44,c45,c46,u47,u48,u49,u50,u51,u52,u53,u54,u55,u56,u57,c58,c59],[]⟩ w'))
  (hQ:∀c (a:Act) (d:Tmp) (v:Value) w,Q (.panic c) (a.put (some d) v) w->Q (.panic c) a w) :
  (Ai Tryz.f59 12).wp prog Q ⟨#[c0,c1,c2,c3,c4,c5,c6,.pointer (some Bs),v8,c9,.pointer (some Ba),c11,c12,c13,c14,c15,c16,c17,c18,c19,c20,c21,c22,c23,c24,c25,c26,c27,c28,c29,c30,c31,c32,c33,c34,c35,c36,c37,c38,c39,c40,c41,c42,c43,c44,c45,c46,c47,c48,c49,c50,c51,c52,c53,c54,c55,c56,c57,c58,c59],[]⟩ w:=by
 conv=>arg 2;whnf
 have GF:=aq hs;have sL:∀(j:Nat) (z:Value),[.int .i64 s.start,.int .i64 s.length,.int .i64 s.kind,.slice ap s.Ga.length ac,.int .i64 s.chunk,.slice eN s.stale.length eR,.string s.log,.string s.pool,.int .i64 s.device,.int .i64 s.mode,.int .i64 s.done][j]?=some z->∀q:fo,(ext w q).cell? ⟨Bs,j,none⟩=some z:=fun j z hz=>aG GF (by
  simp only[World.cell?,hs];simpa using hz)
 obtain⟨s0,s1,s2,s3,s4,s5,s6,s7,s8,s9,s10⟩:=IC sL;have a1:=aG Sr ha1;have a2:=aG Sr ha2;have HO:=aa hO;clear hO;have HS:=aa hs;clear hs;have hlen1:=hlen.1;have hlen2:=hlen.2;have hst1:=hst.1;have hst2:=hst.2;have he0:0<=iB s.kind s.length s.Ga.length:=by
  unfold iB;split
  ·exact lz hlen1 TcN
  exact hlen1
 have he1:iB s.kind s.length s.Ga.length<=1000000:=by
  unfold iB;split
  ·exact Int.le_trans (mS _ hlen1) hlen2
  exact hlen2
 obtain⟨i0,hi,hz0,hz1,hz2⟩:=gg kL;have HI:=aa hi;clear hi;have H0:=aa hz0;clear hz0;have H1:=aa hz1;clear hz1;have H2:=aa hz2;clear hz2;have HEA:Hid (kJ s a=⟨false,a.on,a.start+iB s.kind s.length s.Ga.length⟩):=aa rfl;have Ss:=aa (fun w':World=>ji s.start s.length s.kind s.chunk s.device s.mode s.done ap eN s.Ga.length ac s.stale.length eR s.log s.pool w' hlen1 TcN TcN);generalize hex:iB s.kind s.length s.Ga.length=ex at *;have hwr:IntKind.i64.wrap (a.start+ex)=a.start+ex:=dy _ TcN;clear sL ha1 ha2 hlen hst hex;(refine lG _ 8 TcP rfl rfl TcP TcP (fun _ _ _ _ h=>hQ _ _ _ _ _ h) TdT ?_;simp only[xi,iv,cQ,cL])
 repeat(go_big_quiet_step ((go_at_call 102;exact iH (Ss.o _))))
 with_reducible refine fR ?_
 intro wq ia;have kq:=dY ia;clear ia s0 s1 s2 s3 s4 s5 s6 s7 s8 s9 s10 a1 a2 Ss;have hO2:=HO.o.below kq;have G2:=ae wq (.cells #[.bool false,.string a.on,.int .i64 (a.start+ex)] 83);have hO3:=hO2.below G2;have HO3:=aa hO3;have pL:=aa G2;have o0:=aa kq;have PF:=cA hB kq.size;clear hO2 hO3 G2 kq;go_wp2_with(at_builtin;refine dX aQ.moves underlying86 HI.o H0.o H1.o H2.o rfl TcQ TcQ rfl _ _ rfl B (fun _=>False) v8 l ⟨false,a.on,a.start+ex⟩ rfl HO3.o wq.heap.size 1 [.bool false,.string a.on,.int .i64 (a.start+ex)] rfl rfl rfl ?d3 ?d4 ?d5 ?d6 (fun _ _ f=>f) ?_)
 all_goals first|(case d3=>(simp[Value.oneCell']))|(case d4=>(intro j y hy;exact aD rfl Tc6))|(case d5=>omega)|(case d6=>omega)|(case d6=>simp only[cW];omega)|skip
 intro gb cap w3 hp;have CT:∀j,j<w.heap.size->v8.ownBlock≠some j->w3.heap[j]?=w.heap[j]?:=fun j hj hne=>(hp.grown.block j (cC hj (cA o0.o.size pL.o.size)) (fun e=>hne e.symm)).trans ((pL.o.block j (cC hj o0.o.size)).trans (o0.o.block j hj));have jn:Below B w w3:=((o0.o.mono hB).trans (pL.o.mono PF)).grown hp.grown Td5 (fun j e=>(HO3.o.ge e).1);have hS:=CT Bs GF (HO.o.notSeg HS.o);have Qt:=hp.own;rw[<- HEA.o]at Qt;have HOW:=aa Qt;have PG:=aa jn;have Mx:=aa hS;clear hp Qt jn hS CT;go_wp2;exact HK.o _ _ _ _ _ _ _ _ _ _ _ _ _ HOW.o PG.o Mx.o
def D7(w:World)(l:List (ByteArray × Int))(e:Ending)(w':World):Prop:=∃v,e=.returned v/\iC w.heap.size w' v (l.map fun x=>⟨false,x.1,x.2⟩)/\Below w.heap.size w w'
theorem yg{l:List aB}(h:l=[]):oZ l=[]:=by subst h;rfl
theorem Dn{l:List aB}{s:aB}(hl:0<l.length)(h:l[l.length-1]?=some s):oZ l=if s.kind=1\/s.kind=2 then qN s else []:=by
 unfold oZ;rw[List.getLast?_eq_getElem?,h]
theorem Ta8{p:Prop}(h:p:=by
 ·have qT:Hid (jE g nm=[]):=aa (by rw[PH.o,HE.o,bh hk]);have n1:(s.kind != 1)=true:=by simp;exact fun q=>hk (.inl q)
  have n2:(s.kind != 2)=true:=by simp;exact fun q=>hk (.inr q)
  clear hk;go_wp2;go_ret;exact⟨_,rfl,by rw[qT.o];exact iC.nil _ _,eI.o⟩):p:=h
theorem Tbz{p:Prop}(h:p:=by
 cases hf:aM g.F9 nm with
 |none=>simp[eY]
 |some v =>
  have hv:=eV hf;exact⟨(ht v hv).1,fun s hs=>⟨(ht v hv).2 s hs,CH v hv s hs⟩⟩):p:=h
theorem TeP{p:Prop}(h:p:=by rw[qT.o];unfold qN;rw[List.map_map];rfl):p:=h
theorem TaS{p:Prop}(h:p:=by
 go_upto_region 9 with(fail);clear s3;go_loopw[8,40] (fun lv i wr=>∃k:Nat,k<=s.Ga.length/\i=.int .i64 k/\iC W4.heap.size wr lv ((s.Ga.take k).map (kJ s))/\Below W4.heap.size W4 wr) (fun _ i _=>s.Ga.length-(intOf i).toNat)
 exact⟨0,cg _,rfl,iC.nil _ _,bj _ _⟩;obtain⟨k,hk,rfl,hown,hB⟩:=hrel;have HOW:=aa hown;clear hown;have HB:=aa hB;clear hB;by_cases hlt:k<s.Ga.length
 ·obtain⟨x,hx⟩:=aj s.Ga k hlt;obtain⟨b3,off3,us3,hsp3,B7,PV,pT,Tr,hcv3⟩:=ya.o.elem hx;subst hsp3;obtain rfl:us3=_:=Tr;have Tl:wr.heap[b3]?=W4.heap[b3]?:=HB.o.block b3 PV;obtain⟨q0,q1,q2⟩:=Mn Tl hcv3;have HTS:Hid ((s.Ga.take (k+1)).map (kJ s)=(s.Ga.take k).map (kJ s)++[kJ s x]):=aa (by rw[take_snoc' s.Ga k x hx,gl];rfl);have pS:=Oc.o x (ct hx);have hst:=sY.o x (ct hx);clear hx hcv3 pT Tl;rw[pS]at q0;have mA:=HB.o.size;have hA:=ae wr (.cells (Tay x) 83);have yb:=aa (b9 wr (.cells (Tay x) 83));have cm:=aa (HB.o.trans (hA.mono mA));have HOW2:=aa (HOW.o.below hA);clear hA;go_upto_region 11 with(fail);clear q0 q1 q2;generalize hW5:World.alloc wr _=W5 at *;generalize NU:wr.heap.size=Ba at *;clear hW5 HB HOW;obtain⟨a0,a1,a2⟩:=sv3 (cr yb.o);go_upto_region 12 with(fail);refine rF _ W5 W4.heap.size Bs Ba (some ⟨b3,off3,none⟩) eN ac eR s x _ _ cm.o.size Q1 (by rw[fW,ey];omega) HLN.o hst ((cm.o.block _ (aq lj.o)).trans lj.o) (aq yb.o) a1 a2 HOW2.o (aa ?_) ?hQ
  case hQ=>exact fun _ _ _ _ _ h=>h
  intro v' w' u47 u48 u49 u50 u51 u52 u53 u54 u55 u56 u57 ho' hb' hs';have HO':=aa ho';clear ho';have Ks:=aa (cm.o.trans hb');clear hb' hs' a0 a1 a2;go_wp2;go_roundw;exact⟨k+1,TcN,TcR,by rw[HTS.o];exact HO'.o,Ks.o⟩;simp[intOf];omega
 obtain rfl:k=s.Ga.length:=by omega
 rw[cI]at HOW;have Ng:Hid ((jE g nm).map (fun x=>(⟨false,x.1,x.2⟩:aR))=s.Ga.map (kJ s)):=aa TeP;go_wp2;go_ret;exact⟨_,rfl,by rw[Ng.o];exact HOW.o.mono Zu.o,eI.o.trans (HB.o.mono Zu.o)⟩):p:=h
theorem Tcc{p:Prop}(h:p:=by
 rcases hk with q|q
 ·exact .inl (by simp[q])
 exact .inr ⟨by simp[q],by simp[q]⟩):p:=h
theorem Tel{p:Prop}(h:p:=by rw[PH.o,HE.o];exact iC.nil _ _):p:=h
theorem Cr{ok:Nat->Prop}(g:af)(a:bN)(nm:ByteArray)(w:World)(hr:b6 aN 6 ok w [.slice a.vp g.F9.length a.vc] g.F9)(hz:JT g)(ht:qx g.F9)(CH:∀v∈g.F9,∀s∈v.Gf,fP s->∀a∈s.Ga,0<=a.start/\a.start<=1000000) :
  Calls prog 59 #[.agg (Tad g a),.string nm] w (D7 w (jE g nm)):=by
 have HG:=aa hr;clear hr;have HZ:=aa hz;clear hz;have hA1:=ae w (.cells (Tad g a) 32);have cU:=aa hA1;clear hA1;have CN:=aa (b9 w (.cells (Tad g a) 32));have gL:=cr CN.o;go_enter func59,ntmps59
 go_upto_region 1 with(fail);generalize hW1:World.alloc w _=W1 at *;obtain⟨g0,g1,g2,g3,g4,g5,g6,g7,g8⟩:=xr gL;clear gL hW1;have Q5:=aa (fA (ok:=fun b=>ok b/\b<w.heap.size) g a nm W1 ((b6.moves aN.moves).mv ⟨cU.o.size,fun b hb ho=>⟨⟨ho,hb⟩,cU.o.block b hb⟩⟩ HG.o) HZ.o.vl HZ.o.vz);go_wp2_with fail;clear g0 g1 g2 g3 g4 g5 g6 g7 g8;refine Q5.o.mono ?_;clear Q5;rintro e w2 ⟨u,rfl,sA,hb2⟩;have eE:((aM g.F9 nm).getD eY).Gf.length<=1000/\∀s∈((aM g.F9 nm).getD eY).Gf,((0<=s.length/\s.length<=1000000)/\s.Ga.length<=1000/\(fP s->∀a∈s.Ga,a.vol=false))/\(fP s->∀a∈s.Ga,0<=a.start/\a.start<=1000000):=by
  exact Tbz
 have XU:=aa eE.2;have mb:=eE.1;have PH:Hid (jE g nm=oZ ((aM g.F9 nm).getD eY).Gf):=aa rfl;generalize (aM g.F9 nm).isSome=YW at *;generalize hv:(aM g.F9 nm).getD eY=v at *;have cm:=Zbl cU hb2;obtain⟨tv,sv,rfl,ew,fL⟩:=sA;obtain⟨tp,tc,rfl,_,_⟩:=ew.cap;obtain⟨sp,sc,rfl,hsc1,hsc2⟩:=fL.cap;clear ew hb2 hv eE ht CH;have hA:=ae w2 (.cells (Taf v tp tc sp sc) 57);have zv:=aa (b9 w2 (.cells (Taf v tp tc sp sc) 57));have cJ:=Zbl cm hA;have Zv:=aa ((b6.moves bC.moves).mv (Mv.of hA) fL);clear fL hA cm;go_upto_region 2 with(fail);generalize hW3:World.alloc w2 _=W3 at *;generalize XK:w2.heap.size=Bv at *;clear hW3;have v5:=cr zv.o 5 _ rfl;by_cases h0:v.Gf.length=0
 ·have HE:Hid (oZ v.Gf=[]):=aa (yg (fX h0));go_wp2;go_ret;exact⟨_,rfl,Tel,cJ.o⟩
 obtain⟨s,hs⟩:=aj v.Gf (v.Gf.length-1) TcN;have HE:=aa (Dn TcN hs);obtain⟨b,off,us,hsp,gR,cX,ez,eE,hcv⟩:=Zv.o.elem hs;subst hsp;have Su:=aa (XU.o s (ct hs));obtain⟨av,Oz,rfl,mC,hst⟩:=eE;obtain⟨ap,ac,rfl,_,_⟩:=mC.cap;obtain⟨eN,eR,rfl,_,_⟩:=hst.cap;have cT:W3.heap[b]?=W3.heap[b]?:=rfl;obtain⟨q0,q1,q2,q3,q4,q5,q6,q7,q8,q9,q10⟩:=ak5 cT hcv;have YX:((v.Gf.length:Int)-1)=((v.Gf.length-1:Nat):Int):=by omega
 clear hs hcv ez cT hst XU;have hA:=ae W3 (.cells (Tae s ap ac eN eR) 88);have lj:=aa (b9 W3 (.cells (Tae s ap ac eN eR) 88));have eI:=Zbl cJ hA;have ya:=aa ((b6.moves aQ.moves).mv (Mv.of hA) mC);clear mC hA cJ;go_upto_region 4 with(fail);go_upto_region 5 with(fail);generalize hW4:World.alloc W3 _=W4 at *;generalize XL:W3.heap.size=Bs at *;clear hW4 q0 q1 q2 q3 q4 q5 q6 q7 q8 q9 q10 v5;have s2:=cr lj.o 2 _ rfl;have s3:=cr lj.o 3 _ rfl;by_cases hk:s.kind=1\/s.kind=2
 ·have qT:Hid (jE g nm=qN s):=aa (by rw[PH.o,HE.o,aw hk]);have G0:fP s:=by rcases hk with q|q;exact .inl q;exact .inr (.inl q)
  have Oc:=aa (Su.o.1.2.2 G0);have sY:=aa (Su.o.2 G0);have Q1:=Su.o.1.2.1;have HLN:=aa Su.o.1.1;clear HE PH Su G0;have hup:∃P:Prop,P:=⟨True,trivial⟩
  have key:(s.kind != 1)=false\/((s.kind != 1)=true/\(s.kind != 2)=false):=by
   exact Tcc
  clear hk hup;have Zu:Hid (w.heap.size<=W4.heap.size):=aa eI.o.size;rcases key with n1|⟨n1,n2⟩
  ·go_upto_region 8 with(fail);clear n1 s2;exact TaS
  go_upto_region 8 with(fail);clear n1 n2 s2;exact TaS
 exact Ta8
theorem EX:(prog.info? 65).map (fun i=>(i.zero,i.size,i.bytes))=some (some (.slice none 0 0),1,24):=by kernel_rfl
theorem bM.ne{l:List (Int × Int)}{t:TypeId}(h:bM w B v l)(hb:w.heap[b]?=some (.cells cs t z))(ht:t≠93):v.ownBlock≠some b:=fun e=>by
 obtain⟨-,h2⟩:=h;rcases h2 with⟨rfl,_⟩|⟨g,cap,cur,rfl,_,hg,_⟩
 ·cases e
 have:g=b:=by simpa[Value.ownBlock]using e
 subst this;rw[hb]at hg;injection hg with hg;injection hg with _ e2;exact ht e2
theorem bM.blk{l:List (Int × Int)}(h:bM w B v l)(hk:∀k,v.ownBlock=some k->w'.heap[k]?=w.heap[k]?):bM w' B v l:=aC h hk
theorem bM.slice{l:List (Int × Int)}(h:bM w B v l):∃p n c,v=.slice p n c:=by
 obtain⟨-,h2⟩:=h;rcases h2 with⟨rfl,_⟩|⟨g,cap,cur,rfl,_⟩
 ·exact⟨_,_,_,rfl⟩
 exact⟨_,_,_,rfl⟩
def fH(w:World)(B:Nat)(v:Value)(xs:List (List (Int × Int))):Prop :=
 ∃vs:List Value,w.ownsRow B 65 1 v xs.length vs/\vs.length=xs.length/\∀(i:Nat) (u:Value) (x:List (Int × Int)),vs[i]?=some u->xs[i]?=some x->bM w B u x
theorem fH.nil(w:World)(B:Nat):fH w B (.slice none 0 0) []:=⟨[],gS w B _ 1,rfl,fun i u x h=>by cases h⟩
theorem fH.blk(h:fH w B v xs)(hk:∀k,B<=k->k<w.heap.size->w'.heap[k]?=w.heap[k]?):fH w' B v xs:=by
 obtain⟨vs,h1,h2,h3⟩:=h;refine⟨vs,aC h1 fun k e=>hk k (fh h1 k e).1 (fh h1 k e).2,h2,fun i u x hu hx=>?_⟩;have ho:=h3 i u x hu hx;exact ho.blk fun k e=>hk k (fh ho k e).1 (fh ho k e).2
theorem fH.below(h:fH w B v xs)(hb:Below w.heap.size w w'):fH w' B v xs:=h.blk fun k _ hk=>hb.block k hk
theorem fH.mono(h:fH w B v xs)(hB:B'<=B):fH w B' v xs:=by
 obtain⟨vs,⟨h0,h1⟩,h2,h3⟩:=h;refine⟨vs,⟨h0,?_⟩,h2,fun i u x hu hx=>(h3 i u x hu hx).mono hB⟩;rcases h1 with hn|⟨g,cap,cur,hv,pC,r⟩
 ·exact .inl hn
 exact .inr ⟨g,cap,cur,hv,TcN,r⟩
theorem fH.cap(h:fH w B v xs):∃p c,v=.slice p xs.length c/\xs.length<=c/\c<=9223372036854775807:=by
 obtain⟨vs,⟨h0,h1⟩,h2,h3⟩:=h;rcases h1 with⟨rfl,hn⟩|⟨g,cap,cur,rfl,pC,hg,vr,hcm,r⟩
 ·exact⟨none,0,by rw[hn],TcN,TcN⟩
 exact⟨_,cap,rfl,vr,Tc4⟩
theorem fH.at{p:Option Addr}{n c:Nat}(h:fH w B (.slice p n c) xs)(hx:xs[k]?=some x) :
  ∃b u,p=some ⟨b,0,none⟩/\B<=b/\b<w.heap.size/\w.cell? ⟨b,k,none⟩=some u/\bM w B u x:=by
 obtain⟨vs,⟨h0,h1⟩,h2,h3⟩:=h;have hk:=(List.getElem?_eq_some_iff.1 hx).1;rcases h1 with⟨hv,hn⟩|⟨g,cap,cur,hv,pC,hg,vr,hcm,hcs,ht⟩
 ·omega
 injection hv with e1 _ e3;subst e1;obtain⟨u,hu⟩:=aj vs k TcN;refine⟨g,u,rfl,pC,(Array.getElem?_eq_some_iff.1 hg).1,?_,h3 k u x hu hx⟩;have hu':=hu;rw[<- ht,ri TcN]at hu';rw[cell_of_row w g k cur _ (0,0) hg];simpa using hu'
theorem iA{ops:Array Oper}{rest:List Oper}{o:Oper}{a:Act}{Q:Exit->Act->World->Prop}(hgd:o.guard=none)(s x:Operand)
  (ho:o.op=.call { callee:=.builtin .append,args:=#[s,x],argTypes:=#[40,40] })
  (B:Nat) (v:Value) (xs:List (List (Int × Int))) (u:Value) (l:List (Int × Int)) (hs:a.eval s=v) (hown:fH w B v xs) (hu:bM w B u l) (g c:Nat) (hx:a.eval x=.slice (some g) 1 c)
  (hc:w.cell? g=some u) (hl:xs.length<=100000000) (hB:B<=w.heap.size)
  (h:∀v' w',fH w' B v' (xs++[l])->Below B w w'->(∀(b:Nat) (cs:Array Value) (t:TypeId) (z:Nat × Nat),w.heap[b]?=some (.cells cs t z)->t≠65->w'.heap[b]?=w.heap[b]?)->wpList prog ops Q rest (a.put o.dst v') w'):wpList prog ops Q (o :: rest) a w:=by
 obtain⟨i0,hi,hz0,hz1,hz2⟩:=gg EX;obtain⟨vs,h1,h2,h3⟩:=hown;obtain⟨pu,nu,cu,rfl⟩:=hu.slice;refine tE w hgd s x 40 ho B 65 i0 _ 1 24 underlying40 hi hz0 hz1 hz2 rfl TcQ v xs.length vs hs h1 ⟨g,0,none⟩ 1 c [.slice pu nu cu] hx rfl (fun j y hy=>?_) Tc0 TcW TcN hB (fun v' w' ho' hg _=>?_)
 ·rw[iz,eJ]
  match j,hy with
  |0,hy =>
   obtain rfl:Value.slice pu nu cu=y:=by simpa using hy
   exact hc
 have YY:∀(b:Nat) (cs:Array Value) (t:TypeId) (z:Nat × Nat),w.heap[b]?=some (.cells cs t z)->t≠65->w'.heap[b]?=w.heap[b]?:=fun b cs t z hb ht=>by
  refine hg.block b (aq hb) fun e=>?_;rcases h1.2 with⟨rfl,_⟩|⟨g',cap,cur,rfl,_,hg',_⟩
  ·cases e
  have:g'=b:=by simpa[Value.ownBlock]using e.symm
  subst this;rw[hb]at hg';injection hg' with hg';injection hg' with _ e2;exact ht e2
 have CT:∀(y:Value) (m:List (Int × Int)),bM w B y m->bM w' B y m:=fun y m hy=>by
  refine hy.blk fun k e=>?_;rcases hy.2 with⟨rfl,_⟩|⟨g',cap,cur,rfl,_,hg',_⟩
  ·cases e
  have:g'=k:=by simpa[Value.ownBlock]using e
  subst this;exact YY _ _ _ _ hg' TcQ
 refine h v' w' ⟨vs++[.slice pu nu cu],by rw[cD];exact ho',by rw[cD,cD,h2];rfl,fun i y m hy hm=>?_⟩ ((bj B w).grown hg hB (fun k hk=>(fh h1 k hk).1)) YY;by_cases hi:i<xs.length
 ·rw[Fo TcN]at hy hm;exact CT y m (h3 i y m hy hm)
 rw[Cp TcN]at hy hm;rw[h2]at hy
 match hj:i-xs.length,hy,hm with
 |0,hy,hm =>
  obtain rfl:Value.slice pu nu cu=y:=by simpa using hy
  obtain rfl:l=m:=by simpa using hm
  exact CT _ _ hu
 |j+1,hy,hm=>simp at hm
structure kF(w:World)(Bj Bd:Nat)(r:aY)(np jp:Option Addr)(nc jc:Nat)(nl jl:List ByteArray)(d:az)(tp:Option Addr)(tc:Nat):Prop where
 at':BC w Bj Bd r np jp nc jc nl jl d tp tc
 n:b6 aF 1 (fun _=>True) w [.slice np nl.length nc] nl
 j:b6 aF 1 (fun _=>True) w [.slice jp jl.length jc] jl
 t:b6 aF 1 (fun _=>True) w [.slice tp d.tags.length tc] d.tags
theorem gI{α:Type}{V:jx α}(hV:Moves V){sz:Nat}{vs:List Value}{l:List α}(h:b6 V sz (fun _=>True) w vs l)(hb:Below w.heap.size w w'):b6 V sz (fun _=>True) w' vs l :=
 (b6.moves hV).mv ⟨hb.size,fun b h1 _=>⟨trivial,hb.block b h1⟩⟩ h
theorem kF.below{jc:Nat}(h:kF w Bj Bd r np jp nc jc nl jl d tp tc)(hb:Below w.heap.size w w'):kF w' Bj Bd r np jp nc jc nl jl d tp tc :=
 ⟨⟨(hb.block _ (aq h.at'.j)).trans h.at'.j,(hb.block _ (aq h.at'.d)).trans h.at'.d⟩,gI aF.moves h.n hb,gI aF.moves h.j hb,gI aF.moves h.t hb⟩
def lH(near tags:List ByteArray)(r:aY)(d:az):Nat->Bool
 |0=>jV d
 |1=>jG r.tag d
 |2=>nN near r.Gg d
 |_=>vE near tags r.Gg d
def Ak:Nat->FuncId
 |0=>25
 |1=>26
 |2=>27
 |_=>28
theorem nI{jc:Nat}(h:kF w Bj Bd r np jp nc jc nl jl d tp tc)(zr:nl.length<=1000000)(vt:jl.length<=1000000)(nt:d.tags.length<=1000000)(k:Nat) :
  Calls prog (Ak k) #[.agg (Tao r nl.length np nc jl.length jp jc),.agg (Tah d tp tc)] w (iI (lH nl jl r d k) w):=by
 match k with
 |0=>exact AX r np jp nc jc nl jl d tp tc w
 |1=>exact zl r np jp nc jc nl jl d tp tc w h.t nt
 |2=>exact yM r np jp nc jc nl jl d tp tc w h.n zr
 |_+3=>exact ym r np jp nc jc nl jl d tp tc w h.n zr h.t nt h.j vt
theorem TbO{p:Prop}(h:p:=by
 go_enter func30,ntmps30
 go_wp2_with(refine HC.o.mono ?_;rintro e w5 ⟨rfl,hb5⟩)
 go_ret;exact⟨rfl,hb5⟩):p:=h
theorem Dz{jc:Nat}(h:kF w Bj Bd r np jp nc jc nl jl d tp tc)(zr:nl.length<=1000000)(vt:jl.length<=1000000)(nt:d.tags.length<=1000000) :
  Calls prog 30 #[.func (.func 25) #[] #[],.pointer (some Bj),.pointer (some Bd)] w (iI (!jV d) w):=by
 have HC:Hid (Calls prog 25 #[.agg (Tao r nl.length np nc jl.length jp jc),.agg (Tah d tp tc)] w (iI (jV d) w)):=aa (nI h zr vt nt 0);have dL:=h.at'.dc;obtain⟨d0,d1,d2,d3,d4,d5,d6⟩:=se dL;have jL:=h.at'.jc;obtain⟨j0,j1,j2,j3,j4,j5,j6,j7,j8⟩:=xr jL;clear dL jL h;generalize jV d=c at *;exact TbO
theorem Cv{jc:Nat}(h:kF w Bj Bd r np jp nc jc nl jl d tp tc)(zr:nl.length<=1000000)(vt:jl.length<=1000000)(nt:d.tags.length<=1000000) :
  Calls prog 30 #[.func (.func 26) #[] #[],.pointer (some Bj),.pointer (some Bd)] w (iI (!jG r.tag d) w):=by
 have HC:Hid (Calls prog 26 #[.agg (Tao r nl.length np nc jl.length jp jc),.agg (Tah d tp tc)] w (iI (jG r.tag d) w)):=aa (nI h zr vt nt 1);have dL:=h.at'.dc;obtain⟨d0,d1,d2,d3,d4,d5,d6⟩:=se dL;have jL:=h.at'.jc;obtain⟨j0,j1,j2,j3,j4,j5,j6,j7,j8⟩:=xr jL;clear dL jL h;generalize jG r.tag d=c at *;exact TbO
theorem CB{jc:Nat}(h:kF w Bj Bd r np jp nc jc nl jl d tp tc)(zr:nl.length<=1000000)(vt:jl.length<=1000000)(nt:d.tags.length<=1000000) :
  Calls prog 30 #[.func (.func 27) #[] #[],.pointer (some Bj),.pointer (some Bd)] w (iI (!nN nl r.Gg d) w):=by
 have HC:Hid (Calls prog 27 #[.agg (Tao r nl.length np nc jl.length jp jc),.agg (Tah d tp tc)] w (iI (nN nl r.Gg d) w)):=aa (nI h zr vt nt 2);have dL:=h.at'.dc;obtain⟨d0,d1,d2,d3,d4,d5,d6⟩:=se dL;have jL:=h.at'.jc;obtain⟨j0,j1,j2,j3,j4,j5,j6,j7,j8⟩:=xr jL;clear dL jL h;generalize nN nl r.Gg d=c at *;exact TbO
theorem Dm{jc:Nat}(h:kF w Bj Bd r np jp nc jc nl jl d tp tc)(zr:nl.length<=1000000)(vt:jl.length<=1000000)(nt:d.tags.length<=1000000) :
  Calls prog 30 #[.func (.func 28) #[] #[],.pointer (some Bj),.pointer (some Bd)] w (iI (!vE nl jl r.Gg d) w):=by
 have HC:Hid (Calls prog 28 #[.agg (Tao r nl.length np nc jl.length jp jc),.agg (Tah d tp tc)] w (iI (vE nl jl r.Gg d) w)):=aa (nI h zr vt nt 3);have dL:=h.at'.dc;obtain⟨d0,d1,d2,d3,d4,d5,d6⟩:=se dL;have jL:=h.at'.jc;obtain⟨j0,j1,j2,j3,j4,j5,j6,j7,j8⟩:=xr jL;clear dL jL h;generalize vE nl jl r.Gg d=c at *;exact TbO
theorem EF{jc:Nat}(h:kF w Bj Bd r np jp nc jc nl jl d tp tc)(zr:nl.length<=1000000)(vt:jl.length<=1000000)(nt:d.tags.length<=1000000)(k:Nat) :
  Calls prog 30 #[.func (.func (Ak k)) #[] #[],.pointer (some Bj),.pointer (some Bd)] w (iI (!lH nl jl r d k) w):=by
 match k with
 |0=>exact Dz h zr vt nt
 |1=>exact Cv h zr vt nt
 |2=>exact CB h zr vt nt
 |_+3=>exact Dm h zr vt nt
def qd(w:World)(b:Nat):Prop:=w.heap[b]?=some (.cells #[.func (.func 25) #[] #[],.func (.func 26) #[] #[],.func (.func 27) #[] #[],.func (.func 28) #[] #[]] 71 (0,0))
theorem C9(h:qd w b)(k:Nat)(hk:k<4):w.cell? (b,k)=some (.func (.func (Ak k)) #[] #[]):=by
 have h:w.heap[b]?=_:=h;rcases(show k=0\/k=1\/k=2\/k=3 by omega)with rfl|rfl|rfl|rfl<;>(simp only[World.cell?,h];rfl)
theorem sH{jc:Nat}(h:kF w Bj Bd r np jp nc jc nl jl d tp tc)(hcs:qd w b)(zr:nl.length<=1000000)(vt:jl.length<=1000000)(nt:d.tags.length<=1000000) :
  Calls prog 56 #[.slice (some b) 4 4,.func (.func 30) #[] #[.pointer (some Bj),.pointer (some Bd)]] w
   fun e w'=>(∃q:Int,e=.returned (.int .i64 q)/\decide (0<=q)=!iD nl jl r d)/\Below w.heap.size w w':=by
 have HH:=aa h;clear h;have ME:=aa hcs;clear hcs;have HU:Hid (iD nl jl r d=(lH nl jl r d 0&&(lH nl jl r d 1&&(lH nl jl r d 2&&lH nl jl r d 3)))):=aa rfl;go_enter func56,ntmps56;go_wp2
 go_loopw[8,5] (fun i _ wr=>∃k:Nat,k<=4/\i=.int .i64 k/\Below w.heap.size w wr/\∀j,j<k->lH nl jl r d j=true) (fun i _ _=>4-(intOf i).toNat)
 exact⟨0,cg _,rfl,bj _ _,fun j hj=>absurd hj TcN⟩;obtain⟨k,hk,rfl,hB,hall⟩:=hrel;have cE:=aa hall;clear hall;have HB:=aa hB;clear hB;by_cases hlt:k<4
 ·have q0:=(HB.o.cell (p:=⟨b,k,none⟩) (aq ME.o)).trans (C9 ME.o k hlt);have HA:=aa (EF (HH.o.below HB.o) zr vt nt k);have HFA:Hid (lH nl jl r d k=false->iD nl jl r d=false):=aa fun hf=>by
   rw[HU.o];rcases(show k=0\/k=1\/k=2\/k=3 by omega)with rfl|rfl|rfl|rfl<;>rw[hf]<;>simp
  generalize Ak k=F at *;cases hc:lH nl jl r d k with
  |false =>
   rw[hc]at HA;have HR:=aa (HFA.o hc);clear hc;go_wp2_with(refine HA.o.mono ?_;rintro e w5 ⟨rfl,hb5⟩)
   go_ret;exact⟨⟨k,rfl,by rw[HR.o];simp⟩,HB.o.trans (hb5.mono HB.o.size)⟩
  |true =>
   rw[hc]at HA;have HR:Hid (∀j,j<k+1->lH nl jl r d j=true):=aa fun j hj=>by
    by_cases e:j=k
    ·rw[e];exact hc
    exact cE.o j TcN
   clear hc;go_wp2_with(refine HA.o.mono ?_;rintro e w5 ⟨rfl,hb5⟩)
   have eK:=Zbl HB hb5;go_roundw;exact⟨k+1,TcN,TcR,eK.o,HR.o⟩;simp[intOf];omega
 obtain rfl:k=4:=by omega
 have HR:Hid (iD nl jl r d=true):=aa (by rw[HU.o,cE.o 0 TcN,cE.o 1 TcN,cE.o 2 TcN,cE.o 3 TcN];rfl);go_wp2;go_ret;exact⟨⟨-1,rfl,Tc1⟩,HB.o⟩
theorem oD{jc:Nat}(h:kF w Bj Bd r np jp nc jc nl jl d tp tc)(hcs:qd w b)(zr:nl.length<=1000000)(vt:jl.length<=1000000)(nt:d.tags.length<=1000000) :
  Calls prog 29 #[.slice (some b) 4 4,.func (.func 30) #[] #[.pointer (some Bj),.pointer (some Bd)]] w (iI (!iD nl jl r d) w):=by
 go_enter func29,ntmps29
 go_wp2_with fail;refine(sH h hcs zr vt nt).mono ?_;rintro e w2 ⟨⟨q,rfl,hr2⟩,hb2⟩;exact TcH
theorem AP(nm:ByteArray)(e:ByteArray × Int){r:Int × Int}(h:x[k]?=some r):su nm e (x.take (k+1))=su nm e (x.take k)++if e.1=nm/\r.1<=e.2/\e.2<r.1+r.2 then [(e.2,r.1+r.2-e.2)] else []:=by
 rw[take_snoc' x k r h];unfold su;rw[E0];congr 1
 by_cases c:e.1=nm/\r.1<=e.2/\e.2<r.1+r.2
 ·rw[aw c];simp[c]
 rw[bh c];rw[List.filterMap_cons,bh c];rfl
theorem BD(nm:ByteArray)(x:List (Int × Int)){E:List (ByteArray × Int)}{e:ByteArray × Int}(h:E[k]?=some e):mQ (E.take (k+1)) nm x=mQ (E.take k) nm x++su nm e x:=by
 rw[take_snoc' E k e h];simp[mQ]
theorem TbC{p:Prop}(h:p:=by
 go_wp2;go_roundw;exact⟨j+1,TcN,TcR,by rw[fl.o];exact HOW4.o,ar2.o,eI.o⟩;simp[intOf];omega):p:=h
theorem yI{ok:Nat->Prop}(g:af)(a:bN)(vol dn:ByteArray)(x:List (Int × Int))(v3:Value)(w:World)(hr:b6 aN 6 ok w [.slice a.vp g.F9.length a.vc] g.F9)(hz:JT g)(ht:qx g.F9)(CH:∀v∈g.F9,∀s∈v.Gf,fP s->∀a∈s.Ga,0<=a.start/\a.start<=1000000)
  (hx:xo w v3 x) (qu:∀p∈x,0<=p.1/\1<=p.2/\p.1+p.2<=1073741824) (vh:x.length<=30000) (Vh:(jE g vol).length<=10) :
  Calls prog 32 #[.agg (Tad g a),.string vol,.string dn,v3] w (zz w (Mem (mQ (jE g vol) dn x)) 300000):=by
 have HG:=aa hr;clear hr;have HX0:=aa hx;obtain⟨p3,c3,rfl,ac4,ac5,hx3⟩:=hx;have HX:=aa hx3;clear hx3;have Qp:=aa qu;clear qu;have Mk:=aa (ae w (.cells (Tad g a) 32));have CN:=aa (b9 w (.cells (Tad g a) 32));have gL:=cr CN.o;go_enter func32,ntmps32
 go_upto_region 2 with(fail);generalize hW1:World.alloc w _=W1 at *;obtain⟨g0,g1,g2,g3,g4,g5,g6,g7,g8⟩:=xr gL;clear gL hW1;have Sv:=aa (Cr (ok:=ok) g a vol W1 ((b6.moves aN.moves).mv (Mv.of Mk.o) HG.o) hz ht CH);clear hz ht CH;go_wp2_with fail;clear g0 g1 g2 g3 g4 g5 g6 g7 g8;refine Sv.o.mono ?_;clear Sv;rintro e w2 ⟨ev,rfl,how,hb2⟩;have cm:=Zbl Mk hb2;have kf:b6 aQ 3 (fun _=>True) w2 [ev] ((jE g vol).map fun x=>⟨false,x.1,x.2⟩):=bF.rd aQ.moves how TcQ (fun _ _ _=>trivial) (fun _ _=>trivial);clear how hb2;generalize hE:jE g vol=E at *;have PH:=aa hE;clear hE;obtain⟨ep,ec,rfl,WH,ac6⟩:=kf.cap;have B2:=aa kf;clear kf;rw[fW]at WH ⊢;have aj8:=cm.o.size;have HX2:Hid (0<x.length->∃b off,p3=some ⟨b,off,none⟩/\b<w2.heap.size/\ru w2 b off x):=aa fun h=>by
  obtain⟨b,off,e,hb,hc⟩:=HX.o h;exact⟨b,off,e,TcN,hc.below cm.o hb⟩
 have hxx:x.length<=9223372036854775807:=by omega
 go_upto_region 3 with(fail);go_loopw[10,19] (fun lv i wr=>∃k:Nat,k<=E.length/\i=.int .i64 k/\bM wr w2.heap.size lv (mQ (E.take k) dn x)/\Below w2.heap.size w2 wr) (fun _ i _=>E.length-(intOf i).toNat)
 exact⟨0,cg _,rfl,bM.nil _ _,bj _ _⟩;obtain⟨k,hk,rfl,hown,hB⟩:=hrel;have HOW:=aa hown;clear hown;have HB:=aa hB;clear hB;have hbl:(mQ (E.take k) dn x).length<=300000:=by
  have h1:=Dj (E.take k) dn x;have h2:(E.take k).length*x.length<=10*30000:=ue (by rw[ey];omega) vh;omega
 by_cases hlt:k<E.length
 ·obtain⟨e,he⟩:=aj E k hlt;obtain⟨b,off,us,rfl,gR,cX,ez,eE,hcv⟩:=B2.o.elem (k:=k) (x:=(⟨false,e.1,e.2⟩:aR)) (by rw[rI,he];rfl);obtain rfl:us=_:=eE;have cT:wr.heap[b]?=w2.heap[b]?:=HB.o.block b cX;obtain⟨q0,q1,q2⟩:=Mn cT hcv;dsimp only at q1 q2;have G1:=aa (BD dn x he);have mA:=HB.o.size;clear he hcv ez cT;have hA:=ae wr (.cells (Tas e.1 e.2) 83);have yb:=aa (b9 wr (.cells (Tas e.1 e.2) 83));have cJ:=aa (HB.o.trans (hA.mono mA));have HOW3:=aa (HOW.o.below hA);clear hA;go_upto_region 6 with(fail);clear q0 q1 q2;generalize hW3:World.alloc wr _=W3 at *;generalize NU:wr.heap.size=Ba at *;clear hW3 HB HOW;generalize hL0:mQ (E.take k) dn x=L0 at *;have QX:=aa hL0;clear hL0;go_loopw[10,25] (fun lv i wi=>∃j:Nat,j<=x.length/\i=.int .i64 j/\bM wi w2.heap.size lv (L0++su dn e (x.take j))/\wi.heap[Ba]?=some (.cells (Tas e.1 e.2) 83 (0,0))/\Below w2.heap.size w2 wi) (fun _ i _=>x.length-(intOf i).toNat)
  exact⟨0,cg _,rfl,by rw[iv,show su dn e []=[] from rfl,eM];exact HOW3.o,yb.o,cJ.o⟩;clear yb cJ HOW3;obtain⟨j,hj,rfl,hown,Sr,hB⟩:=hrel;have HOW:=aa hown;clear hown;have HB:=aa hB;clear hB;have yb:=aa Sr;clear Sr;have Sw:=HB.o.size;have Qu:=wT dn e (x.take j);rw[ey]at Qu;by_cases hlt2:j<x.length
  ·obtain⟨r,hr⟩:=aj x j hlt2;obtain⟨b4,off4,hp3,hb4,hc4⟩:=HX2.o TcN;subst hp3;have hc:=hc4.below HB.o hb4 j r hr;have x0:=hc.1;have x1:=hc.2;have fl:=aa (AP dn e hr);have sB:=Qp.o r (ct hr);obtain⟨hr1,hr2,hr3⟩:=sB;clear hc hc4 hr;have WI:=aq yb.o;have hA:=ae wr (.cells #[.int .i64 r.1,.int .i64 r.2] 93);have YZ:=aa (b9 wr (.cells #[.int .i64 r.1,.int .i64 r.2] 93));have eI:=aa (HB.o.trans (hA.mono Sw));have HOW4:=aa (HOW.o.below hA);have ar2:=aa ((hA.block _ WI).trans yb.o);clear hA;go_upto_region 8 with(fail);clear x0 x1;generalize hW5:World.alloc wr _=W5 at *;generalize Rz:wr.heap.size=Br at *;clear hW5 HB HOW yb;have a1:=cr ar2.o 1 _ rfl;have a2:=cr ar2.o 2 _ rfl;have r0:=cr YZ.o 0 _ rfl;have r1:=cr YZ.o 1 _ rfl;have hwr:IntKind.i64.wrap (r.1+r.2)=r.1+r.2:=dy _ TcN;by_cases hen:e.1=dn
   ·have hb1:(e.1.toList==dn.toList)=true:=by rw[hen];simp
    have Sv:=aa hen;clear hen;by_cases h1:r.1<=e.2
    ·by_cases h2:e.2<r.1+r.2
     ·rw[aw ⟨Sv.o,h1,h2⟩]at fl;have TL:IntKind.i64.wrap (r.1+r.2-e.2)=r.1+r.2-e.2:=dy _ TcN;have WJ:=eI.o.size;go_wp2_with(at_builtin;refine jg rfl _ _ rfl w2.heap.size _ (L0++su dn e (x.take j)) (e.2,r.1+r.2-e.2) rfl ?c1 W5.heap.size 1 rfl ?c2 ?c3 ?c4 ?c5 ?_)
      case c1=>exact HOW4.o.below (ae _ _)
      all_goals first|(case c2=>exact aD rfl rfl)|(case c3=>exact aD rfl rfl)|(case c4=>rw[cD];omega)|(case c5=>simp;omega)|skip
      intro v' w6 hown1 hb1' hg1;have hA:=ae W5 (.cells #[.int .i64 e.2,.int .i64 (r.1+r.2-e.2)] 93);have Nw:=(hA.block _ (aq ar2.o)).trans ar2.o;have Tq:=aa ((eI.o.trans (hA.mono WJ)).trans hb1');have WK:=aa ((hg1.block Ba (aq Nw) (fun e=>(HOW4.o.below hA).ne Nw TcQ e.symm)).trans Nw);have HOW6:=aa hown1;clear hA Nw hb1' hg1 hown1 a1 a2 r0 r1;go_wp2;go_roundw;exact⟨j+1,TcN,TcR,by rw[fl.o];first|exact HOW6.o|(rw[<- cV];exact HOW6.o),WK.o,Tq.o⟩;simp[intOf];omega
     rw[bh (fun c=>h2 c.2.2),eM]at fl;exact TbC
    rw[bh (fun c=>h1 c.2.1),eM]at fl;exact TbC
   have hb1:=jI hen;rw[bh (fun c=>hen c.1),eM]at fl;have Sv:=aa hen;clear hen;exact TbC
  obtain rfl:j=x.length:=by omega
  rw[cI]at HOW;have WL:Hid (bM wr w2.heap.size _ (mQ (E.take (k+1)) dn x)):=aa (by rw[G1.o];exact HOW.o);clear HOW;go_wp2;go_roundw;exact⟨k+1,TcN,TcR,WL.o,HB.o⟩;simp[intOf];omega
 obtain rfl:k=E.length:=by omega
 rw[cI]at HOW hbl;have HV:=aa (xS (ends:=E) (nm:=dn) Qp.o);have HN:=aa (tJ (mQ E dn x) _ wr HOW.o.rd HV.o TcN);have fy:Hid (Below w.heap.size w wr):=aa (cm.o.trans (HB.o.mono aj8));clear HOW;go_wp2_with fail;refine HN.o.mono ?_;rintro e' w7 ⟨v7,x7,rfl,ho7,hn7,hl7,hb7⟩;have HO7:=aa ho7;clear ho7;have Sx:=aa hn7;clear hn7;have ux:=Zbl fy hb7;have Zu:=aa fy.o.size;clear hb7;go_wp2;go_ret2;exact⟨v7,x7,rfl,HO7.o.mono Zu.o,Sx.o,TcN,ux.o⟩
def Mi(ok F:Nat->Prop)(Qj:FuncId)(Nd:List Value)(F9:List ay)(I:List (ay × aB)->World->Prop)(w:World):Prop :=
 ∀(pre:List (ay × aB)) (v:ay) (s:aB) (post:List (ay × aB)),aA F9=pre++(v,s) :: post->∀(W:World) (u1 u2:List Value),cR F w W->I pre W->aN ok W u1 v->bC ok W u2 s ->
  Calls prog Qj (Value.agg u1.toArray :: Value.agg u2.toArray :: Nd).toArray W fun e W'=>e=.returned (.int .i64 0)/\cR F W W'/\I (pre++[(v,s)]) W'
theorem ni{ok F:Nat->Prop}(Qj:FuncId)(Nd:List Value)(hfn:∀(l:Array Value) (W:World),Sem.run prog (callFunc Qj l) W=.ok (.enter Qj l) W)(g:af)(a:bN)(bc:Nat)(I:List (ay × aB)->World->Prop)(w:World)(kB:gY w bc g a)(hg:dN ok w g a)(hz:JT g)
  (hF:∀k,F k->k<w.heap.size/\¬ok k) (hI:∀pre W W',I pre W->Below W.heap.size W W'->I pre W') (h0:I [] w) (hC:Mi ok F Qj Nd g.F9 I w) :
  Calls prog 118 #[.pointer (some bc),.func (.func Qj) #[] Nd.toArray] w fun e w'=>e=.returned (.tuple #[.string ⟨#[]⟩,.int .i64 0])/\cR F w w'/\I (aA g.F9) w':=by
 have jt:=kB.lt;have MH:=aa hfn;clear hfn;obtain⟨sm,hblk,_⟩:=kB;have nw:Hid (bX w bc sm g a):=aa hblk;clear hblk;obtain⟨g0,g1,g2,g3,g4,g5,g6,g7,g8⟩:=bX.cells nw.o;have HG:=aa hg.F9;have HZ:=aa hz;have mb:=hz.vl;obtain⟨vp,vc,sT,ao8,ap0⟩:=hg.F9.cap;have Ro:=aa hF;clear hF;have Yp:=aa hI;clear hI;have XH:=aa hC;clear hC;have H0:=aa h0;clear h0 hg hz;injection sT with e1 e2 e3;obtain⟨ID,TJ,TK,G3,G4,Ge,Hb,Hc⟩:=a;dsimp only at e1 e2 e3 g0 g1 g2 g3 g4 g5 g6 g7 g8;subst e1;subst e3;clear e2;go_enter func118,ntmps118;go_wp2;clear g0 g1 g2 g3 g4 g5 g6 g7 g8
 go_loopw[17] (fun i wr=>∃k:Nat,k<=g.F9.length/\i=.int .i64 k/\cR F w wr/\I (aA (g.F9.take k)) wr) (fun i _=>g.F9.length-(intOf i).toNat)
 exact⟨0,cg _,rfl,cR.refl _ _,H0.o⟩;clear H0;obtain⟨k,hk,rfl,hm,hi⟩:=hrel;have HM:=aa hm;clear hm;have HI:=aa hi;clear hi;by_cases hlt:k<g.F9.length
 ·obtain⟨v,hv⟩:=aj g.F9 k hlt;obtain⟨b,off,us,rfl,gR,cX,ez,eE,hcv⟩:=HG.o.elem hv;have My:=aa eE;have hvz:=HZ.o.vz v (ct hv);have GF:=hvz.Gf;obtain⟨tv,sv,rfl,ew,fL⟩:=eE;obtain⟨tp,tc,rfl,_,_⟩:=ew.cap;obtain⟨sp,sc,rfl,hsc1,hsc2⟩:=fL.cap;have cT:wr.heap[b]?=w.heap[b]?:=HM.o.block b cX (fun f=>(Ro.o b f).2 gR);obtain⟨q0,q1,q2,q3,q4,q5⟩:=NG cT hcv;have HV:=aa hv;clear hv;have Zv:=aa fL;clear hcv ez cT ew fL hvz;have zv:=aa (b9 wr (.cells (Taf v tp tc sp sc) 57));have hA:=ae wr (.cells (Taf v tp tc sp sc) 57);have Nf:=aa (HM.o.trans (cR.of_below (F:=fun _=>False) hA) (fun _ f=>f.elim));have Qh:=aa (Yp.o _ _ _ HI.o hA);have mA:=HM.o.size;have VD:=aa (aq zv.o);clear hA;go_wp2;clear q0 q1 q2 q3 q4 q5;generalize hW1:World.alloc wr _=W1 at *;generalize XK:wr.heap.size=Bv at *;clear hW1 XK HI HM;go_loopw[24] (fun i wi=>∃j:Nat,j<=v.Gf.length/\i=.int .i64 j/\cR F w wi/\I (bW g.F9 k j v) wi/\wi.heap[Bv]?=some (.cells (Taf v tp tc sp sc) 57 (0,0))) (fun i _=>v.Gf.length-(intOf i).toNat)
  exact⟨0,cg _,rfl,Nf.o,by rw[eQ];exact Qh.o,zv.o⟩;clear Nf Qh zv VD;obtain⟨j,hj,rfl,hm,hi,vA⟩:=hrel;have HM:=aa hm;clear hm;have HI:=aa hi;clear hi;have zv:=aa vA;clear vA;by_cases hlt2:j<v.Gf.length
  ·obtain⟨s,hs⟩:=aj v.Gf j hlt2;obtain⟨b2,off2,us2,hsp,I0,C2,B5,C3,hcv2⟩:=Zv.o.elem hs;subst hsp;have HSV:=aa C3;obtain⟨av,Oz,rfl,mC,hst⟩:=C3;obtain⟨ap,ac,rfl,_,_⟩:=mC.cap;obtain⟨eN,eR,rfl,_,_⟩:=hst.cap;have AD:wr.heap[b2]?=w.heap[b2]?:=HM.o.block b2 C2 (fun f=>(Ro.o b2 f).2 I0);obtain⟨q0,q1,q2,q3,q4,q5,q6,q7,q8,q9,q10⟩:=ak5 AD hcv2;have HS:=aa hs;clear hs;have vL:=cr zv.o;obtain⟨v0,v1,v2,v3,v4,v5⟩:=sv6 vL;have hA:=ae wr (.cells (Tae s ap ac eN eR) 88);have QY:=aa (HM.o.trans (cR.of_below (F:=fun _=>False) hA) (fun _ f=>f.elim));have Qi:=aa (Yp.o _ _ _ HI.o hA);have hBz:=aq zv.o;have cm:=aa ((hA.block _ hBz).trans zv.o);clear hcv2 B5 AD mC hst vL hA;go_wp2_with fail;clear q0 q1 q2 q3 q4 q5 q6 q7 q8 q9 q10 v0 v1 v2 v3 v4 v5;generalize hW2:World.alloc wr _=W2 at *;clear hW2;have N5:=XH.o (bW g.F9 k j v) v s (fV g.F9 k (j+1) v) (jB g.F9 k j v s HV.o HS.o) W2 _ _ QY.o Qi.o (aN.moves.mv (Mv.mod QY.o (fun b f=>(Ro.o b f).2)) My.o) (bC.moves.mv (Mv.mod QY.o (fun b f=>(Ro.o b f).2)) HSV.o);rw[MH.o];refine N5.mono ?_;clear N5;rintro e w3 ⟨rfl,hm3,hi3⟩;have N2:=aa hi3;clear hi3;have Rp:=aa (QY.o.trans hm3 (fun k f=>.inl f));have cJ:Hid (w3.heap[Bv]?=_):=aa ((hm3.block _ (aq cm.o) (fun f=>by have:=(Ro.o Bv f).1;omega)).trans cm.o);have VE:Hid (I (bW g.F9 k (j+1) v) w3):=aa (by rw[fG g.F9 k j v s HS.o];exact N2.o);have n0:=cr cJ.o 0 _ rfl;clear hm3 N2 QY Qi cm HI;go_wp2;go_roundw;exact⟨j+1,TcN,TcR,Rp.o,VE.o,cJ.o⟩;simp[intOf];omega
  obtain rfl:j=v.Gf.length:=by omega
  have N2:Hid (I (aA (g.F9.take (k+1))) wr):=aa (by rw[<- fJ g.F9 k v HV.o];exact HI.o);clear HI;go_wp2;go_roundw;exact⟨k+1,TcN,TcR,HM.o,N2.o⟩;simp[intOf];omega
 obtain rfl:k=g.F9.length:=by omega
 have HIF:Hid (I (aA g.F9) wr):=aa (by have:=HI.o;rwa[cI]at this);go_wp2;go_ret2;exact⟨rfl,HM.o,HIF.o⟩
theorem TbQ{p:Prop}(h:p:=by
 have:=b9 (w.alloc (.cells (Taf v tp tc sp sc) 57)) (.cells (Tae s ap ac eN eR) 88);rw[cW]at this;exact this):p:=h
theorem Ta2{p:Prop}(h:p:=by
 (refine aU TcP TcP ?_;(repeat(go_big_quiet_step ((go_at_call 124;exact iH (HLE.o _ _)))));(with_reducible refine fR ?_);intro wq ia;have kq:=dY ia;clear ia)
 have fy:=Zbl cm kq;clear kq el0 es1 es3 eq1;have hsb:=ox.o;generalize (dO g r.on==s.length)=x at *;subst hsb;go_wp2;go_ret;exact⟨rfl,fy.o⟩):p:=h
theorem Lp{ok:Nat->Prop}(g:af)(a:bN)(bc Bc Bl:Nat)(v:ay)(s:aB)(u1 u2:List Value)(w:World)(kB:gY w bc g a)(hcc:w.cell? Bc=some (.pointer (some bc)))(Hh:Bc<w.heap.size)
  (Rn:w.cell? Bl=some (.func (.func 124) #[] #[.pointer (some Bc)])) (hbl:Bl<w.heap.size) (hg:dN ok w g a) (hz:JT g) (hlb:Cu g) (hx:1<=g.Gd/\g.Gd<=1024)
  (hv:aN ok w u1 v) (hs:bC ok w u2 s) (hf:Ah s) (hsb:CX g s=true) :
  Calls prog 126 #[.agg u1.toArray,.agg u2.toArray,.pointer (some Bl),.pointer (some Bc)] w fun e w'=>e=.returned (.int .i64 0)/\Below w.heap.size w w':=by
 have jt:=kB.lt;obtain⟨tv,sv,rfl,ew,fL⟩:=hv;obtain⟨tp,tc,rfl,_,_⟩:=ew.cap;obtain⟨sp,sc,rfl,_,_⟩:=fL.cap;obtain⟨av,Oz,rfl,mC,hst⟩:=hs;obtain⟨ap,ac,rfl,aq0,aq1⟩:=mC.cap;obtain⟨eN,eR,rfl,hsc1,hsc2⟩:=hst.cap;have ya:=aa mC;clear ew fL mC hst;have I3:=aa kB;obtain⟨sm,hblk,_⟩:=kB;have nw:Hid (bX w bc sm g a):=aa hblk;clear hblk;have HG:=aa hg;clear hg;have HZ:=aa hz;clear hz;have O6:=aa hf;have hl0:=hf.fm.l0;have hl1:=hf.fm.l1;have aw2:=hf.fm.ar;clear hf;have Qc:=aa hlb;clear hlb;have HX:=aa hx;clear hx;have XH:=aa hcc;have HLL:=aa Rn;have hb2:=(ae w (.cells (Taf v tp tc sp sc) 57)).trans ((ae (w.alloc (.cells (Taf v tp tc sp sc) 57)) (.cells (Tae s ap ac eN eR) 88)).mono (ae w _).size);have h1:((w.alloc (.cells (Taf v tp tc sp sc) 57)).alloc (.cells (Tae s ap ac eN eR) 88)).heap[w.heap.size+1]?=some (.cells (Tae s ap ac eN eR) 88 (0,0)):=by
  exact TbQ
 have cm:=aa hb2;clear hb2;have H1:=aa h1;clear h1;have LI:∀wr:World,wr.heap[w.heap.size+1]?=some (.cells (Tae s ap ac eN eR) 88 (0,0))->∀(j:Nat) (z:Value),[.int .i64 s.start,.int .i64 s.length,.int .i64 s.kind,.slice ap s.Ga.length ac,.int .i64 s.chunk,.slice eN s.stale.length eR,.string s.log,.string s.pool,.int .i64 s.device,.int .i64 s.mode,.int .i64 s.done][j]?=some z->wr.cell? ⟨w.heap.size+1,j,none⟩=some z:=fun wr h j z hz=>by
  exact Tcr
 have SL:=aa LI;clear LI;have Ys:∀(wr:World) (nm:ByteArray),Below w.heap.size w wr->Calls prog 124 #[.string nm,.pointer (some Bc)] wr fun e w'=>e=.returned (.int .i64 (dO g nm))/\Below wr.heap.size wr w':=fun wr nm hB =>
  yC (ok:=ok) g a bc Bc nm wr (I3.o.below hB) ((hB.cell Hh).trans XH.o) (HG.o.mv (Mv.of hB)) HZ.o
 have HLEN:=aa Ys;clear Ys hcc Rn;have ox:Hid (_=true):=aa ((CX.eq_1 g s).symm.trans hsb);clear hsb;go_enter func126,ntmps126
 go_upto_region 2 with(fail);generalize hW2:World.alloc (World.alloc w _) _=W2 at *;clear hW2;have s2:=SL.o W2 H1.o 2 _ rfl;by_cases h3:s.kind=3
 ·have h3b:(s.kind==3)=true:=by simpa using h3
  rw[aw h3]at ox;have hn:=O6.o.c3 h3;clear h3;have HSA:=aa (Bool.and_eq_true_iff.1 ox.o);clear ox;have hn1:=hn.1;have hn2:=hn.2;clear hn;have s3:=SL.o W2 H1.o 3 _ rfl;go_upto_region 5 with(fail);clear s2 s3;go_loopw[20,7] (fun i x wr=>∃k:Nat,k<=s.Ga.length/\i=.int .i64 k/\x=.bool true/\Below w.heap.size w wr/\wr.heap[w.heap.size+1]?=some (.cells (Tae s ap ac eN eR) 88 (0,0))) (fun i _ _=>s.Ga.length-(intOf i).toNat)
  exact⟨0,cg _,rfl,rfl,cm.o,H1.o⟩;clear cm H1;obtain⟨k,hk,rfl,rfl,hB,hx1⟩:=hrel;have H1:=aa hx1;clear hx1;by_cases hlt:k<s.Ga.length
  ·obtain⟨r,hr⟩:=aj s.Ga k hlt;obtain⟨b,off,us,rfl,_,cX,TE,Tv,hcv'⟩:=ya.o.elem hr;obtain rfl:us=_:=Tv;have cT:wr.heap[b]?=w.heap[b]?:=hB.block b cX;have q0:=(cd (a:=⟨b,off+k*3,none⟩) cT).trans (hcv' 0 _ rfl);have q1:=(cd (a:=⟨b,off+k*3+1,none⟩) cT).trans (hcv' 1 _ rfl);have q2:=(cd (a:=⟨b,off+k*3+2,none⟩) cT).trans (hcv' 2 _ rfl);have VB:=aa (List.all_eq_true.1 HSA.o.1 r (ct hr));clear hcv' TE cT hr;have hA:=ae wr (.cells (Tau r) 83);have pL:=aa (b9 wr (.cells (Tau r) 83));have cU:=aa (hB.trans (hA.mono hB.size));have H11:=Zbk hA H1;clear hA;go_upto_region 7 with(fail);generalize hW3:World.alloc wr _=W3 at *;generalize hB3:wr.heap.size=Ba at *;clear hW3 hB3 hB q0 q1 q2 H1;have a1:=cr pL.o 1 _ rfl;have s1:=cr H11.o 1 _ rfl;have l0:=(cU.o.cell (p:=Bl) hbl).trans HLL.o;have el0:=aG (cP W3 _ l0) l0;have es1:=aG (cP W3 _ s1) s1;have VI:=aG (cP W3 _ a1) a1;have HLE:Hid (∀(p:fo) nm,Calls prog 124 #[.string nm,.pointer (some Bc)] (ext W3 p) fun e w'=>e=.returned (.int .i64 (dO g nm))/\Below (ext W3 p).heap.size (ext W3 p) w'):=aa fun p nm=>HLEN.o _ nm (mn cU.o (dQ W3 p))
   (refine aU TcP TcP ?_;(repeat(go_big_quiet_step ((go_at_call 124;exact iH (HLE.o _ _)))));(with_reducible refine fR ?_);intro wq ia;have kq:=dY ia;clear ia)
   have fy:=Zbl cU kq;have O7:=Zbk kq H11;clear kq el0 es1 VI a1 s1 l0;go_wp2;go_roundw;exact⟨k+1,TcN,TcR,by rw[show(dO g r.on==s.length)=true from VB.o],fy.o,O7.o⟩;simp[intOf];omega
  obtain rfl:k=s.Ga.length:=by omega
  have s1:=cr H1.o 1 _ rfl;have s4:=cr H1.o 4 _ rfl;have cB:=(hB.cell (p:=Bc) Hh).trans XH.o;obtain⟨-,-,-,g3,-,-,-,-,-⟩:=bX.cells (sm:=sm) ((hB.block bc jt).trans nw.o);have es1:=aG (cP wr _ s1) s1;have es4:=aG (cP wr _ s4) s4;have Rs:=aG (cP wr _ cB) cB;have eg3:=aG (cP wr _ g3) g3;have x1:=HX.o.1;have x2:=HX.o.2;have m0:0<=s.length*g.Gd:=oA TcN TcN;have m1:s.length*g.Gd<=32768*1024:=tW hl1 x2 TcN TcN;have w1:IntKind.i64.wrap (s.length*g.Gd)=s.length*g.Gd:=dy _ TcN;have r0:0<=BZ g s:=lz TcN TcN;have r1:BZ g s<=s.length*g.Gd+s.chunk-1:=mS _ TcN;have Yt:Hid (BZ g s=_):=aa (BZ.eq_1 g s);go_upto_region 9 with(fail);(refine aU TcP TcP ?_;(repeat(go_big_quiet_step ((go_at_call 127;exact iH (tN _ _ _ TcN TcN TcN TcN)))));(with_reducible refine fR ?_);intro wq ia;have kq:=dY ia;clear ia)
  have fy:=aa (hB.trans (kq.mono hB.size));have O7:=Zbk kq H1;clear kq es1 es4 Rs eg3 s1 s4 cB g3 w1;rw[<- Yt.o];generalize hR:BZ g s=R at *;have V7:=aa hR;clear hR Yt;go_upto_region 10 with(fail);have s6:=cr O7.o 6 _ rfl;by_cases hle:s.log.toList.isEmpty=true
  ·go_quiet (fail)
   go_wp2;go_ret;exact⟨rfl,aT fy.o _⟩
  have hle':s.log.toList.isEmpty=false:=by simpa using hle
  have HMI:Hid (1+(R+64-1)/64<=dO g s.log*g.Gd):=aa (by
   have:=HSA.o.2;unfold Fe at this;rw[V7.o]at this;simpa[hle']using this)
  clear hle;have l0:=(fy.o.cell (p:=Bl) hbl).trans HLL.o;have cB:=(fy.o.cell (p:=Bc) Hh).trans XH.o;obtain⟨-,-,-,g3,-,-,-,-,-⟩:=bX.cells (sm:=sm) ((fy.o.block bc jt).trans nw.o);have el0:=aG (cP wq _ l0) l0;have es6:=aG (cP wq _ s6) s6;have Rs:=aG (cP wq _ cB) cB;have eg3:=aG (cP wq _ g3) g3;have lb:=Qc.o s.log;have lb0:=lb.1;have lb1:=lb.2;have HLE:Hid (∀(p:fo),Calls prog 124 #[.string s.log,.pointer (some Bc)] (ext wq p) fun e w'=>e=.returned (.int .i64 (dO g s.log))/\Below (ext wq p).heap.size (ext wq p) w'):=aa fun p=>HLEN.o _ _ (mn fy.o (dQ wq p));generalize dO g s.log=L at *;have v0:0<=L*g.Gd:=oA lb0 TcN;have v1:L*g.Gd<=10000000*1024:=tW lb1 x2 TcN TcN;have w1:IntKind.i64.wrap (L*g.Gd)=L*g.Gd:=dy _ TcN;have y0:0<=(R+64-1)/64:=lz TcN TcN;have y1:(R+64-1)/64<=R+64-1:=mS _ TcN;have w2:IntKind.i64.wrap (1+(R+64-1)/64)=1+(R+64-1)/64:=dy _ TcN
  (refine aU TcP TcP ?_;(repeat(go_big_quiet_step ((first|(go_at_call 127;exact iH (tN _ _ _ TcN TcN TcN TcN))|(go_at_call 124;exact iH (HLE.o _))))));(with_reducible refine fR ?_);intro wq ia;have kq:=dY ia;clear ia)
  have Fc:=Zbl fy kq;clear kq el0 es6 Rs eg3 l0 cB g3 s6 w1 w2;have hmi:=HMI.o;generalize 1+(R+64-1)/64=X at *;generalize L*g.Gd=Y at *;go_wp2;go_ret;exact⟨rfl,Fc.o⟩
 have h3b:(s.kind==3)=false:=by simpa using h3
 rw[bh h3]at ox;clear h3;by_cases h4:s.kind=4
 ·have h4b:(s.kind==4)=true:=by simpa using h4
  rw[aw h4]at ox;have hn:=O6.o.a4 h4;clear h4;obtain⟨r0,hr0⟩:=aj s.Ga 0 TcN;have ho:MJ s 0=r0.on:=by simp[MJ,hr0]
  rw[ho]at ox;have HSA:=aa (Bool.and_eq_true_iff.1 ox.o);have Kp:Hid (s.length/((s.Ga.length:Int)-1)*g.Gd+16<=dO g r0.on*g.Gd):=aa (by
   have:=HSA.o.2;unfold ER at this;rw[ho]at this;exact of_decide_eq_true this)
  clear ox;obtain⟨b,off,us,rfl,_,cX,ez,eE,hcv⟩:=ya.o.elem hr0;obtain rfl:us=_:=eE;have Z1:=aa (hcv 1 _ rfl);clear hcv ez hr0 ho;have s3:=SL.o W2 H1.o 3 _ rfl;go_upto_region 13 with(fail);clear s2 s3;go_loopw[73,7] (fun i x wr=>∃k:Nat,k<=s.Ga.length/\i=.int .i64 k/\x=.bool true/\Below w.heap.size w wr/\wr.heap[w.heap.size+1]?=some (.cells (Tae s (some ⟨b,off,none⟩) ac eN eR) 88 (0,0))) (fun i _ _=>s.Ga.length-(intOf i).toNat)
  exact⟨0,cg _,rfl,rfl,cm.o,H1.o⟩;clear cm H1;obtain⟨k,hk,rfl,rfl,hB,hx1⟩:=hrel;have H1:=aa hx1;clear hx1;by_cases hlt:k<s.Ga.length
  ·obtain⟨r,hr⟩:=aj s.Ga k hlt;obtain⟨b',off',us',e',_,ak8,TE,Tv,hcv'⟩:=ya.o.elem hr;injection e' with e';injection e' with eb eo;subst eb;subst eo;obtain rfl:us'=_:=Tv;have cT:wr.heap[b]?=w.heap[b]?:=hB.block b cX;have q0:=(cd (a:=⟨b,off+k*3,none⟩) cT).trans (hcv' 0 _ rfl);have q1:=(cd (a:=⟨b,off+k*3+1,none⟩) cT).trans (hcv' 1 _ rfl);have q2:=(cd (a:=⟨b,off+k*3+2,none⟩) cT).trans (hcv' 2 _ rfl);have VB:=aa (List.all_eq_true.1 HSA.o.1 r (ct hr));clear hcv' TE cT ak8 hr;have hA:=ae wr (.cells (Tau r) 83);have pL:=aa (b9 wr (.cells (Tau r) 83));have cU:=aa (hB.trans (hA.mono hB.size));have H11:=Zbk hA H1;clear hA;go_upto_region 15 with(fail);generalize hW3:World.alloc wr _=W3 at *;generalize hB3:wr.heap.size=Ba at *;clear hW3 hB3 hB q0 q1 q2 H1;have a1:=cr pL.o 1 _ rfl;have s3:=cr H11.o 3 _ rfl;have l0:=(cU.o.cell (p:=Bl) hbl).trans HLL.o;have z1:=(cU.o.cell (p:=⟨b,off+0*3+1,none⟩) cX).trans Z1.o;have el0:=aG (cP W3 _ l0) l0;have es3:=aG (cP W3 _ s3) s3;have VI:=aG (cP W3 _ a1) a1;have VJ:=aG (cP W3 _ z1) z1;have HLE:Hid (∀(p:fo) nm,Calls prog 124 #[.string nm,.pointer (some Bc)] (ext W3 p) fun e w'=>e=.returned (.int .i64 (dO g nm))/\Below (ext W3 p).heap.size (ext W3 p) w'):=aa fun p nm=>HLEN.o _ nm (mn cU.o (dQ W3 p))
   (refine aU TcP TcP ?_;(repeat(go_big_quiet_step ((go_at_call 124;exact iH (HLE.o _ _)))));(with_reducible refine fR ?_);intro wq ia;have kq:=dY ia;clear ia)
   have fy:=Zbl cU kq;have O7:=Zbk kq H11;clear kq el0 es3 VI VJ a1 s3 l0 z1;go_wp2;go_roundw;exact⟨k+1,TcN,TcR,by rw[show(dO g r.on==dO g r0.on)=true from VB.o],fy.o,O7.o⟩;simp[intOf];omega
  obtain rfl:k=s.Ga.length:=by omega
  have s1:=cr H1.o 1 _ rfl;have s3:=cr H1.o 3 _ rfl;have l0:=(hB.cell (p:=Bl) hbl).trans HLL.o;have cB:=(hB.cell (p:=Bc) Hh).trans XH.o;have z1:=(hB.cell (p:=⟨b,off+0*3+1,none⟩) cX).trans Z1.o;obtain⟨-,-,-,g3,-,-,-,-,-⟩:=bX.cells (sm:=sm) ((hB.block bc jt).trans nw.o);have el0:=aG (cP wr _ l0) l0;have es1:=aG (cP wr _ s1) s1;have es3:=aG (cP wr _ s3) s3;have Rs:=aG (cP wr _ cB) cB;have eg3:=aG (cP wr _ g3) g3;have VJ:=aG (cP wr _ z1) z1;have HLE:Hid (∀(p:fo) nm,Calls prog 124 #[.string nm,.pointer (some Bc)] (ext wr p) fun e w'=>e=.returned (.int .i64 (dO g nm))/\Below (ext wr p).heap.size (ext wr p) w'):=aa fun p nm=>HLEN.o _ nm (mn hB (dQ wr p));have lb:=Qc.o r0.on;have lb0:=lb.1;have lb1:=lb.2;have x1:=HX.o.1;have x2:=HX.o.2;generalize hL:dO g r0.on=L at *;have m0:0<=L*g.Gd:=oA lb0 TcN;have m1:L*g.Gd<=10000000*1024:=tW lb1 x2 TcN TcN;have w1:IntKind.i64.wrap (L*g.Gd)=L*g.Gd:=dy _ TcN;have w2:IntKind.i64.wrap ((s.Ga.length:Int)-1)=(s.Ga.length:Int)-1:=dy _ TcN;have n0:(((s.Ga.length:Int)-1)==0)=false:=by simp;omega
  have d0:s.length.tdiv ((s.Ga.length:Int)-1)=s.length/((s.Ga.length:Int)-1):=CC TcN;have d1:0<=s.length/((s.Ga.length:Int)-1):=lz TcN TcN;have d2:s.length/((s.Ga.length:Int)-1)<=s.length:=mS _ TcN;generalize s.length/((s.Ga.length:Int)-1)=D at *;have w3:IntKind.i64.wrap D=D:=dy _ TcN;have m2:0<=D*g.Gd:=oA d1 TcN;have m3:D*g.Gd<=32768*1024:=tW TcN x2 TcN TcN;have w4:IntKind.i64.wrap (D*g.Gd)=D*g.Gd:=dy _ TcN;have w5:IntKind.i64.wrap (D*g.Gd+16)=D*g.Gd+16:=dy _ TcN;have VK:Hid (∀(p:fo),Calls prog 124 #[.string r0.on,.pointer (some Bc)] (ext wr p) fun e w'=>e=.returned (.int .i64 L)/\Below (ext wr p).heap.size (ext wr p) w'):=aa fun p=>by rw[<- hL];exact HLE.o p _
  clear HLE;go_upto_region 17 with(fail);(refine aU TcP TcP ?_;(repeat(go_big_quiet_step ((go_at_call 124;exact iH (VK.o _)))));(with_reducible refine fR ?_);intro wq ia;have kq:=dY ia;clear ia)
  have fy:=aa (hB.trans (kq.mono hB.size));clear kq el0 es1 es3 Rs eg3 VJ s1 s3 l0 cB z1 g3 w1 w2 w3 w4 w5 d0 n0;have hpb:=Kp.o;generalize D*g.Gd=X at *;generalize L*g.Gd=Y at *;exact Tcu
 have h4b:(s.kind==4)=false:=by simpa using h4
 rw[bh h4]at ox;clear h4;by_cases h5:s.kind=5
 ·have h5b:(s.kind==5)=true:=by simpa using h5
  rw[aw h5]at ox;have hn:=O6.o.fm.p5 h5;obtain⟨r,hr⟩:=aj s.Ga 1 TcN;have ho:MJ s 1=r.on:=by simp[MJ,hr]
  rw[ho]at ox;obtain⟨b,off,us,rfl,_,cX,ez,eE,hcv⟩:=ya.o.elem hr;obtain rfl:us=_:=eE;have q1:=(cm.o.cell (p:=⟨b,off+1*3+1,none⟩) cX).trans (hcv 1 _ rfl);have s1:=SL.o W2 H1.o 1 _ rfl;have s3:=SL.o W2 H1.o 3 _ rfl;have l0:=(cm.o.cell (p:=Bl) hbl).trans HLL.o;have el0:=aG (cP W2 _ l0) l0;have es1:=aG (cP W2 _ s1) s1;have es3:=aG (cP W2 _ s3) s3;have eq1:=aG (cP W2 _ q1) q1;have HLE:Hid (∀(p:fo) nm,Calls prog 124 #[.string nm,.pointer (some Bc)] (ext W2 p) fun e w'=>e=.returned (.int .i64 (dO g nm))/\Below (ext W2 p).heap.size (ext W2 p) w'):=aa fun p nm=>HLEN.o _ nm (mn cm.o (dQ W2 p));clear hcv ez hr ho cX
  go_upto_region 19 with(fail);exact Ta2
 have h5b:(s.kind==5)=false:=by simpa using h5
 rw[bh h5]at ox;clear h5;by_cases h7:s.kind=7
 ·have OY:(s.kind==7)=true:=by simpa using h7
  rw[aw h7]at ox;have hn:=O6.o.fm.p7 h7;obtain⟨r,hr⟩:=aj s.Ga 0 TcN;have ho:MJ s 0=r.on:=by simp[MJ,hr]
  rw[ho]at ox;obtain⟨b,off,us,rfl,_,cX,ez,eE,hcv⟩:=ya.o.elem hr;obtain rfl:us=_:=eE;have q1:=(cm.o.cell (p:=⟨b,off+0*3+1,none⟩) cX).trans (hcv 1 _ rfl);have s1:=SL.o W2 H1.o 1 _ rfl;have s3:=SL.o W2 H1.o 3 _ rfl;have l0:=(cm.o.cell (p:=Bl) hbl).trans HLL.o;have el0:=aG (cP W2 _ l0) l0;have es1:=aG (cP W2 _ s1) s1;have es3:=aG (cP W2 _ s3) s3;have eq1:=aG (cP W2 _ q1) q1;have HLE:Hid (∀(p:fo) nm,Calls prog 124 #[.string nm,.pointer (some Bc)] (ext W2 p) fun e w'=>e=.returned (.int .i64 (dO g nm))/\Below (ext W2 p).heap.size (ext W2 p) w'):=aa fun p nm=>HLEN.o _ nm (mn cm.o (dQ W2 p));clear hcv ez hr ho cX
  go_upto_region 21 with(fail);exact Ta2
 have OY:(s.kind==7)=false:=by simpa using h7
 rw[bh h7]at ox;clear h7;go_wp2;go_ret;exact⟨rfl,cm.o⟩
end Go.Proofs.YtillcmhjhajimaaGreatDoor
