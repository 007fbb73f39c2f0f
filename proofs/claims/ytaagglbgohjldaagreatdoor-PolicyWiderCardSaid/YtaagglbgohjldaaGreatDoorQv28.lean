/- Lemmas: PolC, PolD, PolE. -/
import Derived.Test.YtaagglbgohjldaaGreatDoorQv26
set_option maxRecDepth 100000
set_option maxHeartbeats 32000000
set_option linter.all false
namespace Go.Proofs.YtaagglbgohjldaaGreatDoor
open Go.Proofs.Tryz
open Go.RowKit Go.Maps Go.Shelf
variable {B k B' b Bj Bd nc jc tc:Nat}{w w':World}{v:Value}{l:List aR}{cs:Array Value}{z:Nat × Nat}{ok:Nat->Prop}{xs:List (List (Int × Int))}{x:List (Int × Int)}{r:aY}{np jp tp:Option Addr}{nl jl:List ByteArray}{d:az}
def iC (B:Nat)(w:World)(v:Value)(l:List aR):Prop:=bF aQ 3 53 B (fun _=>False) w v l
theorem iC.nil (B:Nat)(w:World):iC B w (.slice none 0 0) []:=⟨[],gS _ _ _ 3,rfl⟩
theorem iC.keep (h:iC B w v l)(hz:w.heap.size<=w'.heap.size)(hk:∀ k,v.ownBlock=some k->w'.heap[k]?=w.heap[k]?):iC B w' v l:=by
 obtain ⟨cs,ho,hf⟩:=h;exact ⟨cs,aC ho hk,Flat.moves aQ.moves ⟨hz,fun b _ f=>f.elim⟩ _ _ hf⟩
theorem iC.below (h:iC B w v l)(hb:Below w.heap.size w w'):iC B w' v l:=by
 refine h.keep hb.size fun k e=>hb.block k ?_;obtain ⟨cs,ho,_⟩:=h;exact (ho.lt k e).2
theorem iC.notSeg (h:iC B w v l)(hk:w.heap[k]?=some (.cells cs 114 z)):v.ownBlock≠some k:=fun e=>by
 obtain ⟨_,ho,_⟩:=h;rcases ho.2 with ⟨rfl,_⟩ | ⟨g,cap,cur,rfl,_,hgg,_⟩
 ·cases e
 obtain rfl:g=k:=by injection e
 rw [hk] at hgg;injection hgg with hgg;injection hgg with _ hgg _
 cases hgg
theorem iC.ge (h:iC B w v l)(e:v.ownBlock=some k):B<=k/\k<w.heap.size:=by
 exact Tcn
theorem iC.mono (h:iC B w v l)(hB:B'<=B):iC B' w v l:=by
 obtain ⟨cs,⟨h1,h2⟩,hf⟩:=h;refine ⟨cs,⟨h1,?_⟩,hf⟩;exact Tcv
def kJ (s:aB)(a:aR):aR:=⟨false,a.on,a.start+iB s.kind s.length s.Ga.length⟩
theorem rF (Q:Exit->Act->World->Prop){c0 c1 c2 c3 c4 c5 c6 c9 c11 c12 c13 c14 c15 c16 c17 c18 c19 c20 c21 c22 c23 c24 c25 c26 c27 c28 c29 c30 c31 c32 c33 c34 c35 c36 c37 c38 c39 c40 c41 c42 c43 c44 c45 c46 c47 c48 c49 c50 c51 c52 c53 c54 c55 c56 c57 c58 c59:Value}(w:World)(B Bs Ba:Nat)(ap eN:Option Addr)(ac eR:Nat)(s:aB)(a:aR)(v8:Value)(l:List aR)
  (hB:B<=w.heap.size) (hal:s.Ga.length<=1000) (hll:l.length<=100000) (hlen:0<=s.length/\s.length<=1000000) (hst:0<=a.start/\a.start<=1000000)
  (hs:w.heap[Bs]?=some (.cells (Tae s ap ac eN eR) 114 (0,0))) (Sr:Ba<w.heap.size) (ha1:w.cell? (Tac Ba 1)=some (.string a.on)) (ha2:w.cell? (Tac Ba 2)=some (.int .i64 a.start))
  (hO:iC B w v8 l)
  (HK:Hid (∀ (v':Value) (w':World) (u47 u48 u49 u50 u51 u52 u53 u54 u55 u56 u57:Value),iC B w' v' (l++[kJ s a])->Below B w w'->w'.heap[Bs]?=w.heap[Bs]?->Q .normal ⟨#[c0,c1,c2,c3,c4,c5,c6,.pointer (some Bs),v',c9,.pointer (some Ba),c11,c12,c13,c14,c15,c16,c17,c18,c19,c20,c21,c22,c23,c24,c25,c26,c27,c28,c29,c30,c31,c32,c33,c34,c35,c36,c37,c38,c39,c40,c41,c42,c43,c44,c45,c46,u47,u48,u49,u50,u51,u52,u53,u54,u55,u56,u57,c58,c59],[]⟩ w'))
  (hQ:∀ c (a:Act) (d:Tmp) (v:Value) w,Q (.panic c) (a.put (some d) v) w->Q (.panic c) a w) :
  (Ai Tryz.f71 12).wp prog Q ⟨#[c0,c1,c2,c3,c4,c5,c6,.pointer (some Bs),v8,c9,.pointer (some Ba),c11,c12,c13,c14,c15,c16,c17,c18,c19,c20,c21,c22,c23,c24,c25,c26,c27,c28,c29,c30,c31,c32,c33,c34,c35,c36,c37,c38,c39,c40,c41,c42,c43,c44,c45,c46,c47,c48,c49,c50,c51,c52,c53,c54,c55,c56,c57,c58,c59],[]⟩ w:=by
 conv=>arg 2;whnf
 have GF:=aq hs;have sL:∀ (j:Nat) (z:Value),[.int .i64 s.start,.int .i64 s.length,.int .i64 s.kind,.slice ap s.Ga.length ac,.int .i64 s.chunk,.slice eN s.stale.length eR,.string s.log,.string s.pool,.int .i64 s.device,.int .i64 s.mode,.int .i64 s.done][j]?=some z->∀ q:fo,(ext w q).cell? ⟨Bs,j,none⟩=some z:=fun j z hz=>aG GF (by
  simp only [World.cell?,hs];simpa using hz)
 obtain ⟨s0,s1,s2,s3,s4,s5,s6,s7,s8,s9,s10⟩:=IC sL;have a1:=aG Sr ha1;have a2:=aG Sr ha2;have HO:=aa hO;clear hO;have HS:=aa hs;clear hs;have hlen1:=hlen.1;have hlen2:=hlen.2;have hst1:=hst.1;have hst2:=hst.2;have he0:0<=iB s.kind s.length s.Ga.length:=by
  unfold iB;split
  ·exact lz hlen1 TcC
  exact hlen1
 have he1:iB s.kind s.length s.Ga.length<=1000000:=by
  unfold iB;split
  ·exact Int.le_trans (mS _ hlen1) hlen2
  exact hlen2
 obtain ⟨i0,hi,hz0,hz1,hz2⟩:=cy kL;have HI:=aa hi;clear hi;have H0:=aa hz0;clear hz0;have H1:=aa hz1;clear hz1;have H2:=aa hz2;clear hz2;have HEA:Hid (kJ s a=⟨false,a.on,a.start+iB s.kind s.length s.Ga.length⟩):=aa rfl;have Ss:=aa (fun w':World=>ji s.start s.length s.kind s.chunk s.device s.mode s.done ap eN s.Ga.length ac s.stale.length eR s.log s.pool w' hlen1 TcC TcC);generalize hex:iB s.kind s.length s.Ga.length=ex at *;have hwr:IntKind.i64.wrap (a.start+ex)=a.start+ex:=dy _ TcC;clear sL ha1 ha2 hlen hst hex;(refine lG _ 8 TcE rfl rfl TcE TcE (fun _ _ _ _ h=>hQ _ _ _ _ _ h) (by go_simp;rfl) ?_;simp only [xi,iv,cQ,cL])
 repeat (go_big_quiet_step ((go_at_call 118;exact iH (Ss.o _))))
 with_reducible refine fR ?_
 intro wq ia;have kq:=dY ia;clear ia s0 s1 s2 s3 s4 s5 s6 s7 s8 s9 s10 a1 a2 Ss;have hO2:=HO.o.below kq;have G2:=ae wq (.cells #[.bool false,.string a.on,.int .i64 (a.start+ex)] 53);have hO3:=hO2.below G2;have HO3:=aa hO3;have pL:=aa G2;have LX:=aa kq;have PF:=cA hB kq.size;clear hO2 hO3 G2 kq;go_wp2_with (at_builtin;refine dX aQ.moves underlying49 HI.o H0.o H1.o H2.o rfl TcF TcF rfl _ _ rfl B (fun _=>False) v8 l ⟨false,a.on,a.start+ex⟩ rfl HO3.o wq.heap.size 1 [.bool false,.string a.on,.int .i64 (a.start+ex)] rfl rfl rfl ?d3 ?d4 ?d5 ?d6 (fun _ _ f=>f) ?_)
 all_goals first | (case d3=>(simp [Value.oneCell'])) | (case d4=>(intro j y hy;exact aD rfl TcX)) | (case d5=>omega) | (case d6=>omega) | (case d6=>simp only [cW];omega) | skip
 intro gb cap w3 hp;have CT:∀ j,j<w.heap.size->v8.ownBlock≠some j->w3.heap[j]?=w.heap[j]?:=fun j hj hne=>(hp.grown.block j (cC hj (cA LX.o.size pL.o.size)) (fun e=>hne e.symm)).trans ((pL.o.block j (cC hj LX.o.size)).trans (LX.o.block j hj));have jn:Below B w w3:=((LX.o.mono hB).trans (pL.o.mono PF)).grown hp.grown (by simp only [cW];omega) (fun j e=>(HO3.o.ge e).1);have hS:=CT Bs GF (HO.o.notSeg HS.o);have Qt:=hp.own;rw [<- HEA.o] at Qt;have HOW:=aa Qt;have PG:=aa jn;have Mx:=aa hS;clear hp Qt jn hS CT;go_wp2;exact HK.o _ _ _ _ _ _ _ _ _ _ _ _ _ HOW.o PG.o Mx.o
def D7 (w:World)(l:List (ByteArray × Int))(e:Ending)(w':World):Prop:=∃ v,e=.returned v/\iC w.heap.size w' v (l.map fun x=>⟨false,x.1,x.2⟩)/\Below w.heap.size w w'
theorem yg {l:List aB}(h:l=[]):oZ l=[]:=by subst h;rfl
theorem Dn {l:List aB}{s:aB}(hl:0<l.length)(h:l[l.length - 1]?=some s):oZ l=if s.kind=1\/s.kind=2 then qN s else []:=by
 unfold oZ;rw [List.getLast?_eq_getElem?,h]
theorem TaW {p:Prop}(h:p:=by
 go_upto_region 9 with (fail);clear s3;go_loopw [8,40] (fun lv i wr=>∃ k:Nat,k<=s.Ga.length/\i=.int .i64 k/\iC W4.heap.size wr lv ((s.Ga.take k).map (kJ s))/\Below W4.heap.size W4 wr) (fun _ i _=>s.Ga.length - (intOf i).toNat)
 exact ⟨0,cg _,rfl,iC.nil _ _,bj _ _⟩;obtain ⟨k,hk,rfl,hown,hB⟩:=hrel;have HOW:=aa hown;clear hown;have HB:=aa hB;clear hB;by_cases hlt:k<s.Ga.length
 ·obtain ⟨x,hx⟩:=aj s.Ga k hlt;obtain ⟨b3,off3,us3,hsp3,B7,PV,pT,Tr,hcv3⟩:=ya.o.elem hx;subst hsp3;obtain rfl:us3=_:=Tr;have Tl:wr.heap[b3]?=W4.heap[b3]?:=HB.o.block b3 PV;obtain ⟨q0,q1,q2⟩:=Mn Tl hcv3;have HTS:Hid ((s.Ga.take (k+1)).map (kJ s)=(s.Ga.take k).map (kJ s)++[kJ s x]):=aa (by rw [take_snoc' s.Ga k x hx,gl];rfl);have pS:=Oc.o x (ct hx);have hst:=sY.o x (ct hx);clear hx hcv3 pT Tl;rw [pS] at q0;have mA:=HB.o.size;have hA:=ae wr (.cells (Tay x) 53);have yb:=aa (b9 wr (.cells (Tay x) 53));have cm:=aa (HB.o.trans (hA.mono mA));have HOW2:=aa (HOW.o.below hA);clear hA;go_upto_region 11 with (fail);clear q0 q1 q2;generalize hW5:World.alloc wr _=W5 at *;generalize NU:wr.heap.size=Ba at *;clear hW5 HB HOW;obtain ⟨a0,a1,a2⟩:=sv3 (cr yb.o);go_upto_region 12 with (fail);refine rF _ W5 W4.heap.size Bs Ba (some ⟨b3,off3,none⟩) eN ac eR s x _ _ cm.o.size hal (by rw [fW,ey];omega) HLN.o hst ((cm.o.block _ (aq lj.o)).trans lj.o) (aq yb.o) a1 a2 HOW2.o (aa ?_) ?hQ
  case hQ=>exact fun _ _ _ _ _ h=>h
  intro v' w' u47 u48 u49 u50 u51 u52 u53 u54 u55 u56 u57 ho' hb' hs';have HO':=aa ho';clear ho';have Ks:=aa (cm.o.trans hb');clear hb' hs' a0 a1 a2;go_wp2;go_roundw;exact ⟨k+1,TcC,TcG,by rw [HTS.o];exact HO'.o,Ks.o⟩;simp [intOf];omega
 obtain rfl:k=s.Ga.length:=by omega
 rw [cI] at HOW;have Ng:Hid ((jE g nm).map (fun x=>(⟨false,x.1,x.2⟩:aR))=s.Ga.map (kJ s)):=aa (by rw [qT.o];unfold qN;rw [List.map_map];rfl);go_wp2;go_ret;exact ⟨_,rfl,by rw [Ng.o];exact HOW.o.mono Zu.o,eI.o.trans (HB.o.mono Zu.o)⟩):p:=h
theorem Cr (g:af)(a:bN)(nm:ByteArray)(w:World)(hr:ck aN 6 ok w [.slice a.vp g.F9.length a.vc] g.F9)(hz:JT g)(ht:qx g.F9)(CH:∀ v∈g.F9,∀ s∈v.Gf,fP s->∀ a∈s.Ga,0<=a.start/\a.start<=1000000) :
  Calls prog 71 #[.agg (Tad g a),.string nm] w (D7 w (jE g nm)):=by
 have HG:=aa hr;clear hr;have HZ:=aa hz;clear hz;have hA1:=ae w (.cells (Tad g a) 31);have cU:=aa hA1;clear hA1;have CN:=aa (b9 w (.cells (Tad g a) 31));have gL:=cr CN.o;go_enter func71,ntmps71
 go_upto_region 1 with (fail);generalize hW1:World.alloc w _=W1 at *;obtain ⟨g0,g1,g2,g3,g4,g5,g6,g7,g8⟩:=xr gL;clear gL hW1;have HCV:=aa (fA (ok:=fun b=>ok b/\b<w.heap.size) g a nm W1 ((ck.moves aN.moves).mv ⟨cU.o.size,fun b hb ho=>⟨⟨ho,hb⟩,cU.o.block b hb⟩⟩ HG.o) HZ.o.vl HZ.o.vz);go_wp2_with fail;clear g0 g1 g2 g3 g4 g5 g6 g7 g8;refine HCV.o.mono ?_;clear HCV;rintro e w2 ⟨u,rfl,sA,hb2⟩;have eE:((aM g.F9 nm).getD eY).Gf.length<=1000/\∀ s∈((aM g.F9 nm).getD eY).Gf,((0<=s.length/\s.length<=1000000)/\s.Ga.length<=1000/\(fP s->∀ a∈s.Ga,a.vol=false))/\(fP s->∀ a∈s.Ga,0<=a.start/\a.start<=1000000):=by
  cases hf:aM g.F9 nm with
  | none=>simp [eY]
  | some v =>
   have hv:=eV hf;exact ⟨(ht v hv).1,fun s hs=>⟨(ht v hv).2 s hs,CH v hv s hs⟩⟩
 have XU:=aa eE.2;have mb:=eE.1;have PH:Hid (jE g nm=oZ ((aM g.F9 nm).getD eY).Gf):=aa rfl;generalize (aM g.F9 nm).isSome=YW at *;generalize hv:(aM g.F9 nm).getD eY=v at *;have cm:=Zbl cU hb2;obtain ⟨tv,sv,rfl,ew,fL⟩:=sA;obtain ⟨tp,tc,rfl,_,_⟩:=ew.cap;obtain ⟨sp,sc,rfl,hsc1,hsc2⟩:=fL.cap;clear ew hb2 hv eE ht CH;have hA:=ae w2 (.cells (Taf v tp tc sp sc) 68);have zv:=aa (b9 w2 (.cells (Taf v tp tc sp sc) 68));have cJ:=Zbl cm hA;have Zv:=aa ((ck.moves bC.moves).mv (Mv.of hA) fL);clear fL hA cm;go_upto_region 2 with (fail);generalize hW3:World.alloc w2 _=W3 at *;generalize hBv:w2.heap.size=Bv at *;clear hW3;have v5:=cr zv.o 5 _ rfl;by_cases h0:v.Gf.length=0
 ·have HE:Hid (oZ v.Gf=[]):=aa (yg (fX h0));go_wp2;go_ret;exact ⟨_,rfl,by rw [PH.o,HE.o];exact iC.nil _ _,cJ.o⟩
 obtain ⟨s,hs⟩:=aj v.Gf (v.Gf.length - 1) TcC;have HE:=aa (Dn TcC hs);obtain ⟨b,off,us,hsp,gR,cX,ez,eE,hcv⟩:=Zv.o.elem hs;subst hsp;have Su:=aa (XU.o s (ct hs));obtain ⟨av,Oz,rfl,py,hst⟩:=eE;obtain ⟨ap,ac,rfl,_,_⟩:=py.cap;obtain ⟨eN,eR,rfl,_,_⟩:=hst.cap;have cT:W3.heap[b]?=W3.heap[b]?:=rfl;obtain ⟨q0,q1,q2,q3,q4,q5,q6,q7,q8,q9,q10⟩:=ak5 cT hcv;have YX:((v.Gf.length:Int) - 1)=((v.Gf.length - 1:Nat):Int):=by omega
 clear hs hcv ez cT hst XU;have hA:=ae W3 (.cells (Tae s ap ac eN eR) 114);have lj:=aa (b9 W3 (.cells (Tae s ap ac eN eR) 114));have eI:=Zbl cJ hA;have ya:=aa ((ck.moves aQ.moves).mv (Mv.of hA) py);clear py hA cJ;go_upto_region 4 with (fail);go_upto_region 5 with (fail);generalize hW4:World.alloc W3 _=W4 at *;generalize hBs:W3.heap.size=Bs at *;clear hW4 q0 q1 q2 q3 q4 q5 q6 q7 q8 q9 q10 v5;have s2:=cr lj.o 2 _ rfl;have s3:=cr lj.o 3 _ rfl;by_cases hk:s.kind=1\/s.kind=2
 ·have qT:Hid (jE g nm=qN s):=aa (by rw [PH.o,HE.o,aw hk]);have G0:fP s:=by rcases hk with q | q;exact .inl q;exact .inr (.inl q)
  have Oc:=aa (Su.o.1.2.2 G0);have sY:=aa (Su.o.2 G0);have hal:=Su.o.1.2.1;have HLN:=aa Su.o.1.1;clear HE PH Su G0;have hup:∃ P:Prop,P:=⟨True,trivial⟩
  have key:(s.kind != 1)=false\/((s.kind != 1)=true/\(s.kind != 2)=false):=by
   rcases hk with q | q
   ·exact .inl (by simp [q])
   exact .inr ⟨by simp [q],by simp [q]⟩
  clear hk hup;have Zu:Hid (w.heap.size<=W4.heap.size):=aa eI.o.size;rcases key with n1 | ⟨n1,n2⟩
  ·go_upto_region 8 with (fail);clear n1 s2;exact TaW
  go_upto_region 8 with (fail);clear n1 n2 s2;exact TaW
 have qT:Hid (jE g nm=[]):=aa (by rw [PH.o,HE.o,bh hk]);have n1:(s.kind != 1)=true:=by simp;exact fun q=>hk (.inl q)
 have n2:(s.kind != 2)=true:=by simp;exact fun q=>hk (.inr q)
 clear hk;go_wp2;go_ret;exact ⟨_,rfl,by rw [qT.o];exact iC.nil _ _,eI.o⟩
theorem EX:(prog.info? 43).map (fun i=>(i.zero,i.size,i.bytes))=some (some (.slice none 0 0),1,24):=by kernel_rfl
theorem bM.ne {l:List (Int × Int)}{t:TypeId}(h:bM w B v l)(hb:w.heap[b]?=some (.cells cs t z))(ht:t≠55):v.ownBlock≠some b:=fun e=>by
 obtain ⟨-,h2⟩:=h;rcases h2 with ⟨rfl,_⟩ | ⟨g,cap,cur,rfl,_,hg,_⟩
 ·cases e
 have:g=b:=by simpa [Value.ownBlock] using e
 subst this;rw [hb] at hg;injection hg with hg;injection hg with _ e2;exact ht e2
theorem bM.blk {l:List (Int × Int)}(h:bM w B v l)(hk:∀ k,v.ownBlock=some k->w'.heap[k]?=w.heap[k]?):bM w' B v l:=aC h hk
theorem bM.slice {l:List (Int × Int)}(h:bM w B v l):∃ p n c,v=.slice p n c:=by
 obtain ⟨-,h2⟩:=h;rcases h2 with ⟨rfl,_⟩ | ⟨g,cap,cur,rfl,_⟩
 ·exact ⟨_,_,_,rfl⟩
 exact ⟨_,_,_,rfl⟩
def fH (w:World)(B:Nat)(v:Value)(xs:List (List (Int × Int))):Prop :=
 ∃ vs:List Value,w.ownsRow B 43 1 v xs.length vs/\vs.length=xs.length/\∀ (i:Nat) (u:Value) (x:List (Int × Int)),vs[i]?=some u->xs[i]?=some x->bM w B u x
theorem fH.nil (w:World)(B:Nat):fH w B (.slice none 0 0) []:=⟨[],gS w B _ 1,rfl,fun i u x h=>by cases h⟩
theorem fH.blk (h:fH w B v xs)(hk:∀ k,B<=k->k<w.heap.size->w'.heap[k]?=w.heap[k]?):fH w' B v xs:=by
 obtain ⟨vs,h1,h2,h3⟩:=h;refine ⟨vs,aC h1 fun k e=>hk k (fh h1 k e).1 (fh h1 k e).2,h2,fun i u x hu hx=>?_⟩;have ho:=h3 i u x hu hx;exact ho.blk fun k e=>hk k (fh ho k e).1 (fh ho k e).2
theorem fH.below (h:fH w B v xs)(hb:Below w.heap.size w w'):fH w' B v xs:=h.blk fun k _ hk=>hb.block k hk
theorem fH.mono (h:fH w B v xs)(hB:B'<=B):fH w B' v xs:=by
 obtain ⟨vs,⟨h0,h1⟩,h2,h3⟩:=h;refine ⟨vs,⟨h0,?_⟩,h2,fun i u x hu hx=>(h3 i u x hu hx).mono hB⟩;rcases h1 with hn | ⟨g,cap,cur,hv,pC,r⟩
 ·exact .inl hn
 exact .inr ⟨g,cap,cur,hv,TcC,r⟩
theorem fH.cap (h:fH w B v xs):∃ p c,v=.slice p xs.length c/\xs.length<=c/\c<=9223372036854775807:=by
 obtain ⟨vs,⟨h0,h1⟩,h2,h3⟩:=h;rcases h1 with ⟨rfl,hn⟩ | ⟨g,cap,cur,rfl,pC,hg,vr,hcm,r⟩
 ·exact ⟨none,0,by rw [hn],TcC,TcC⟩
 exact ⟨_,cap,rfl,vr,TcV⟩
theorem fH.at {p:Option Addr}{n c:Nat}(h:fH w B (.slice p n c) xs)(hx:xs[k]?=some x) :
  ∃ b u,p=some ⟨b,0,none⟩/\B<=b/\b<w.heap.size/\w.cell? ⟨b,k,none⟩=some u/\bM w B u x:=by
 obtain ⟨vs,⟨h0,h1⟩,h2,h3⟩:=h;have hk:=(List.getElem?_eq_some_iff.1 hx).1;rcases h1 with ⟨hv,hn⟩ | ⟨g,cap,cur,hv,pC,hg,vr,hcm,hcs,ht⟩
 ·omega
 injection hv with e1 _ e3;subst e1;obtain ⟨u,hu⟩:=aj vs k TcC;refine ⟨g,u,rfl,pC,(Array.getElem?_eq_some_iff.1 hg).1,?_,h3 k u x hu hx⟩;have hu':=hu;rw [<- ht,ri TcC] at hu';rw [cell_of_row w g k cur _ (0,0) hg];simpa using hu'
theorem iA {ops:Array Oper}{rest:List Oper}{o:Oper}{a:Act}{Q:Exit->Act->World->Prop}(hgd:o.guard=none)(s x:Operand)
  (ho:o.op=.call { callee:=.builtin .append,args:=#[s,x],argTypes:=#[38,38] })
  (B:Nat) (v:Value) (xs:List (List (Int × Int))) (u:Value) (l:List (Int × Int)) (hs:a.eval s=v) (hown:fH w B v xs) (hu:bM w B u l) (g c:Nat) (hx:a.eval x=.slice (some g) 1 c)
  (hc:w.cell? g=some u) (hl:xs.length<=100000000) (hB:B<=w.heap.size)
  (h:∀ v' w',fH w' B v' (xs++[l])->Below B w w'->(∀ (b:Nat) (cs:Array Value) (t:TypeId) (z:Nat × Nat),w.heap[b]?=some (.cells cs t z)->t≠43->w'.heap[b]?=w.heap[b]?)->wpList prog ops Q rest (a.put o.dst v') w'):wpList prog ops Q (o :: rest) a w:=by
 obtain ⟨i0,hi,hz0,hz1,hz2⟩:=cy EX;obtain ⟨vs,h1,h2,h3⟩:=hown;obtain ⟨pu,nu,cu,rfl⟩:=hu.slice;refine tE w hgd s x 38 ho B 43 i0 _ 1 24 underlying38 hi hz0 hz1 hz2 rfl TcF v xs.length vs hs h1 ⟨g,0,none⟩ 1 c [.slice pu nu cu] hx rfl (fun j y hy=>?_) TcQ TcN TcC hB (fun v' w' ho' hg _=>?_)
 ·rw [iz,eJ]
  match j,hy with
  | 0,hy =>
   obtain rfl:Value.slice pu nu cu=y:=by simpa using hy
   exact hc
 have YY:∀ (b:Nat) (cs:Array Value) (t:TypeId) (z:Nat × Nat),w.heap[b]?=some (.cells cs t z)->t≠43->w'.heap[b]?=w.heap[b]?:=fun b cs t z hb ht=>by
  refine hg.block b (aq hb) fun e=>?_;rcases h1.2 with ⟨rfl,_⟩ | ⟨g',cap,cur,rfl,_,hg',_⟩
  ·cases e
  have:g'=b:=by simpa [Value.ownBlock] using e.symm
  subst this;rw [hb] at hg';injection hg' with hg';injection hg' with _ e2;exact ht e2
 have CT:∀ (y:Value) (m:List (Int × Int)),bM w B y m->bM w' B y m:=fun y m hy=>by
  refine hy.blk fun k e=>?_;rcases hy.2 with ⟨rfl,_⟩ | ⟨g',cap,cur,rfl,_,hg',_⟩
  ·cases e
  have:g'=k:=by simpa [Value.ownBlock] using e
  subst this;exact YY _ _ _ _ hg' TcF
 refine h v' w' ⟨vs++[.slice pu nu cu],by rw [cD];exact ho',by rw [cD,cD,h2];rfl,fun i y m hy hm=>?_⟩ ((bj B w).grown hg hB (fun k hk=>(fh h1 k hk).1)) YY;by_cases hi:i<xs.length
 ·rw [Fo TcC] at hy hm;exact CT y m (h3 i y m hy hm)
 rw [Cp TcC] at hy hm;rw [h2] at hy
 match hj:i - xs.length,hy,hm with
 | 0,hy,hm =>
  obtain rfl:Value.slice pu nu cu=y:=by simpa using hy
  obtain rfl:l=m:=by simpa using hm
  exact CT _ _ hu
 | j+1,hy,hm=>simp at hm
structure kF (w:World)(Bj Bd:Nat)(r:aY)(np jp:Option Addr)(nc jc:Nat)(nl jl:List ByteArray)(d:az)(tp:Option Addr)(tc:Nat):Prop where
 at':BC w Bj Bd r np jp nc jc nl jl d tp tc
 n:ck aF 1 (fun _=>True) w [.slice np nl.length nc] nl
 j:ck aF 1 (fun _=>True) w [.slice jp jl.length jc] jl
 t:ck aF 1 (fun _=>True) w [.slice tp d.tags.length tc] d.tags
theorem gI {α:Type}{V:jx α}(hV:Moves V){sz:Nat}{vs:List Value}{l:List α}(h:ck V sz (fun _=>True) w vs l)(hb:Below w.heap.size w w'):ck V sz (fun _=>True) w' vs l :=
 (ck.moves hV).mv ⟨hb.size,fun b h1 _=>⟨trivial,hb.block b h1⟩⟩ h
theorem kF.below (h:kF w Bj Bd r np jp nc jc nl jl d tp tc)(hb:Below w.heap.size w w'):kF w' Bj Bd r np jp nc jc nl jl d tp tc :=
 ⟨⟨(hb.block _ (aq h.at'.j)).trans h.at'.j,(hb.block _ (aq h.at'.d)).trans h.at'.d⟩,gI aF.moves h.n hb,gI aF.moves h.j hb,gI aF.moves h.t hb⟩
def lH (near tags:List ByteArray)(r:aY)(d:az):Nat->Bool
 | 0=>jV d
 | 1=>jG r.tag d
 | 2=>nN near r.Gg d
 | _=>vE near tags r.Gg d
def Ak:Nat->FuncId
 | 0=>28
 | 1=>29
 | 2=>30
 | _=>31
theorem nI (h:kF w Bj Bd r np jp nc jc nl jl d tp tc)(zr:nl.length<=1000000)(vt:jl.length<=1000000)(nt:d.tags.length<=1000000)(k:Nat) :
  Calls prog (Ak k) #[.agg (Tan r nl.length np nc jl.length jp jc),.agg (Tah d tp tc)] w (iI (lH nl jl r d k) w):=by
 match k with
 | 0=>exact AX r np jp nc jc nl jl d tp tc w
 | 1=>exact zl r np jp nc jc nl jl d tp tc w h.t nt
 | 2=>exact yM r np jp nc jc nl jl d tp tc w h.n zr
 | _+3=>exact ym r np jp nc jc nl jl d tp tc w h.n zr h.t nt h.j vt
theorem TbR {p:Prop}(h:p:=by
 go_enter func33,ntmps33
 go_wp2_with (refine HC.o.mono ?_;rintro e w5 ⟨rfl,hb5⟩)
 go_ret;exact ⟨rfl,hb5⟩):p:=h
theorem Dz (h:kF w Bj Bd r np jp nc jc nl jl d tp tc)(zr:nl.length<=1000000)(vt:jl.length<=1000000)(nt:d.tags.length<=1000000) :
  Calls prog 33 #[.func (.func 28) #[] #[],.pointer (some Bj),.pointer (some Bd)] w (iI (!jV d) w):=by
 have HC:Hid (Calls prog 28 #[.agg (Tan r nl.length np nc jl.length jp jc),.agg (Tah d tp tc)] w (iI (jV d) w)):=aa (nI h zr vt nt 0);have dL:=h.at'.dc;obtain ⟨d0,d1,d2,d3,d4,d5,d6⟩:=se dL;have jL:=h.at'.jc;obtain ⟨j0,j1,j2,j3,j4,j5,j6,j7,j8⟩:=xr jL;clear dL jL h;generalize jV d=c at *;exact TbR
theorem Cv (h:kF w Bj Bd r np jp nc jc nl jl d tp tc)(zr:nl.length<=1000000)(vt:jl.length<=1000000)(nt:d.tags.length<=1000000) :
  Calls prog 33 #[.func (.func 29) #[] #[],.pointer (some Bj),.pointer (some Bd)] w (iI (!jG r.tag d) w):=by
 have HC:Hid (Calls prog 29 #[.agg (Tan r nl.length np nc jl.length jp jc),.agg (Tah d tp tc)] w (iI (jG r.tag d) w)):=aa (nI h zr vt nt 1);have dL:=h.at'.dc;obtain ⟨d0,d1,d2,d3,d4,d5,d6⟩:=se dL;have jL:=h.at'.jc;obtain ⟨j0,j1,j2,j3,j4,j5,j6,j7,j8⟩:=xr jL;clear dL jL h;generalize jG r.tag d=c at *;exact TbR
theorem CB (h:kF w Bj Bd r np jp nc jc nl jl d tp tc)(zr:nl.length<=1000000)(vt:jl.length<=1000000)(nt:d.tags.length<=1000000) :
  Calls prog 33 #[.func (.func 30) #[] #[],.pointer (some Bj),.pointer (some Bd)] w (iI (!nN nl r.Gg d) w):=by
 have HC:Hid (Calls prog 30 #[.agg (Tan r nl.length np nc jl.length jp jc),.agg (Tah d tp tc)] w (iI (nN nl r.Gg d) w)):=aa (nI h zr vt nt 2);have dL:=h.at'.dc;obtain ⟨d0,d1,d2,d3,d4,d5,d6⟩:=se dL;have jL:=h.at'.jc;obtain ⟨j0,j1,j2,j3,j4,j5,j6,j7,j8⟩:=xr jL;clear dL jL h;generalize nN nl r.Gg d=c at *;exact TbR
theorem Dm (h:kF w Bj Bd r np jp nc jc nl jl d tp tc)(zr:nl.length<=1000000)(vt:jl.length<=1000000)(nt:d.tags.length<=1000000) :
  Calls prog 33 #[.func (.func 31) #[] #[],.pointer (some Bj),.pointer (some Bd)] w (iI (!vE nl jl r.Gg d) w):=by
 have HC:Hid (Calls prog 31 #[.agg (Tan r nl.length np nc jl.length jp jc),.agg (Tah d tp tc)] w (iI (vE nl jl r.Gg d) w)):=aa (nI h zr vt nt 3);have dL:=h.at'.dc;obtain ⟨d0,d1,d2,d3,d4,d5,d6⟩:=se dL;have jL:=h.at'.jc;obtain ⟨j0,j1,j2,j3,j4,j5,j6,j7,j8⟩:=xr jL;clear dL jL h;generalize vE nl jl r.Gg d=c at *;exact TbR
theorem EF (h:kF w Bj Bd r np jp nc jc nl jl d tp tc)(zr:nl.length<=1000000)(vt:jl.length<=1000000)(nt:d.tags.length<=1000000)(k:Nat) :
  Calls prog 33 #[.func (.func (Ak k)) #[] #[],.pointer (some Bj),.pointer (some Bd)] w (iI (!lH nl jl r d k) w):=by
 match k with
 | 0=>exact Dz h zr vt nt
 | 1=>exact Cv h zr vt nt
 | 2=>exact CB h zr vt nt
 | _+3=>exact Dm h zr vt nt
def qd (w:World)(b:Nat):Prop:=w.heap[b]?=some (.cells #[.func (.func 28) #[] #[],.func (.func 29) #[] #[],.func (.func 30) #[] #[],.func (.func 31) #[] #[]] 81 (0,0))
theorem C9 (h:qd w b)(k:Nat)(hk:k<4):w.cell? (b,k)=some (.func (.func (Ak k)) #[] #[]):=by
 have h:w.heap[b]?=_:=h;rcases (show k=0\/k=1\/k=2\/k=3 by omega) with rfl | rfl | rfl | rfl <;> (simp only [World.cell?,h];rfl)
theorem sH (h:kF w Bj Bd r np jp nc jc nl jl d tp tc)(hcs:qd w b)(zr:nl.length<=1000000)(vt:jl.length<=1000000)(nt:d.tags.length<=1000000) :
  Calls prog 68 #[.slice (some b) 4 4,.func (.func 33) #[] #[.pointer (some Bj),.pointer (some Bd)]] w
   fun e w'=>(∃ q:Int,e=.returned (.int .i64 q)/\decide (0<=q)=!iD nl jl r d)/\Below w.heap.size w w':=by
 have HH:=aa h;clear h;have ME:=aa hcs;clear hcs;have HU:Hid (iD nl jl r d=(lH nl jl r d 0&&(lH nl jl r d 1&&(lH nl jl r d 2&&lH nl jl r d 3)))):=aa rfl;go_enter func68,ntmps68;go_wp2
 go_loopw [8,5] (fun i _ wr=>∃ k:Nat,k<=4/\i=.int .i64 k/\Below w.heap.size w wr/\∀ j,j<k->lH nl jl r d j=true) (fun i _ _=>4 - (intOf i).toNat)
 exact ⟨0,cg _,rfl,bj _ _,fun j hj=>absurd hj TcC⟩;obtain ⟨k,hk,rfl,hB,hall⟩:=hrel;have cE:=aa hall;clear hall;have HB:=aa hB;clear hB;by_cases hlt:k<4
 ·have q0:=(HB.o.cell (p:=⟨b,k,none⟩) (aq ME.o)).trans (C9 ME.o k hlt);have HA:=aa (EF (HH.o.below HB.o) zr vt nt k);have HFA:Hid (lH nl jl r d k=false->iD nl jl r d=false):=aa fun hf=>by
   rw [HU.o];rcases (show k=0\/k=1\/k=2\/k=3 by omega) with rfl | rfl | rfl | rfl <;> rw [hf] <;> simp
  generalize Ak k=F at *;cases hc:lH nl jl r d k with
  | false =>
   rw [hc] at HA;have HR:=aa (HFA.o hc);clear hc;go_wp2_with (refine HA.o.mono ?_;rintro e w5 ⟨rfl,hb5⟩)
   go_ret;exact ⟨⟨k,rfl,by rw [HR.o];simp⟩,HB.o.trans (hb5.mono HB.o.size)⟩
  | true =>
   rw [hc] at HA;have HR:Hid (∀ j,j<k+1->lH nl jl r d j=true):=aa fun j hj=>by
    by_cases e:j=k
    ·rw [e];exact hc
    exact cE.o j TcC
   clear hc;go_wp2_with (refine HA.o.mono ?_;rintro e w5 ⟨rfl,hb5⟩)
   have eK:=Zbl HB hb5;go_roundw;exact ⟨k+1,TcC,TcG,eK.o,HR.o⟩;simp [intOf];omega
 obtain rfl:k=4:=by omega
 have HR:Hid (iD nl jl r d=true):=aa (by rw [HU.o,cE.o 0 TcC,cE.o 1 TcC,cE.o 2 TcC,cE.o 3 TcC];rfl);go_wp2;go_ret;exact ⟨⟨-1,rfl,TcK⟩,HB.o⟩
theorem oD (h:kF w Bj Bd r np jp nc jc nl jl d tp tc)(hcs:qd w b)(zr:nl.length<=1000000)(vt:jl.length<=1000000)(nt:d.tags.length<=1000000) :
  Calls prog 32 #[.slice (some b) 4 4,.func (.func 33) #[] #[.pointer (some Bj),.pointer (some Bd)]] w (iI (!iD nl jl r d) w):=by
 go_enter func32,ntmps32
 go_wp2_with fail;refine (sH h hcs zr vt nt).mono ?_;rintro e w2 ⟨⟨q,rfl,hr2⟩,hb2⟩;exact Tcx
theorem AP (nm:ByteArray)(e:ByteArray × Int){r:Int × Int}(h:x[k]?=some r):su nm e (x.take (k+1))=su nm e (x.take k)++if e.1=nm/\r.1<=e.2/\e.2<r.1+r.2 then [(e.2,r.1+r.2 - e.2)] else []:=by
 rw [take_snoc' x k r h];unfold su;rw [E0];congr 1
 by_cases c:e.1=nm/\r.1<=e.2/\e.2<r.1+r.2
 ·rw [aw c];simp [c]
 rw [bh c];rw [List.filterMap_cons,bh c];rfl
theorem BD (nm:ByteArray)(x:List (Int × Int)){E:List (ByteArray × Int)}{e:ByteArray × Int}(h:E[k]?=some e):mQ (E.take (k+1)) nm x=mQ (E.take k) nm x++su nm e x:=by
 rw [take_snoc' E k e h];simp [mQ]
theorem TbC {p:Prop}(h:p:=by
 go_wp2;go_roundw;exact ⟨j+1,TcC,TcG,by rw [fl.o];exact HOW4.o,ar2.o,eI.o⟩;simp [intOf];omega):p:=h
theorem yI (g:af)(a:bN)(vol dn:ByteArray)(x:List (Int × Int))(v3:Value)(w:World)(hr:ck aN 6 ok w [.slice a.vp g.F9.length a.vc] g.F9)(hz:JT g)(ht:qx g.F9)(CH:∀ v∈g.F9,∀ s∈v.Gf,fP s->∀ a∈s.Ga,0<=a.start/\a.start<=1000000)
  (hx:xo w v3 x) (qu:∀ p∈x,0<=p.1/\1<=p.2/\p.1+p.2<=1073741824) (vh:x.length<=30000) (Vh:(jE g vol).length<=10) :
  Calls prog 35 #[.agg (Tad g a),.string vol,.string dn,v3] w (zz w (Mem (mQ (jE g vol) dn x)) 300000):=by
 have HG:=aa hr;clear hr;have HX0:=aa hx;obtain ⟨p3,c3,rfl,ac4,ac5,hx3⟩:=hx;have HX:=aa hx3;clear hx3;have Qp:=aa qu;clear qu;have Mk:=aa (ae w (.cells (Tad g a) 31));have CN:=aa (b9 w (.cells (Tad g a) 31));have gL:=cr CN.o;go_enter func35,ntmps35
 go_upto_region 2 with (fail);generalize hW1:World.alloc w _=W1 at *;obtain ⟨g0,g1,g2,g3,g4,g5,g6,g7,g8⟩:=xr gL;clear gL hW1;have Sv:=aa (Cr (ok:=ok) g a vol W1 ((ck.moves aN.moves).mv (Mv.of Mk.o) HG.o) hz ht CH);clear hz ht CH;go_wp2_with fail;clear g0 g1 g2 g3 g4 g5 g6 g7 g8;refine Sv.o.mono ?_;clear Sv;rintro e w2 ⟨ev,rfl,how,hb2⟩;have cm:=Zbl Mk hb2;have kf:ck aQ 3 (fun _=>True) w2 [ev] ((jE g vol).map fun x=>⟨false,x.1,x.2⟩):=bF.rd aQ.moves how TcF (fun _ _ _=>trivial) (fun _ _=>trivial);clear how hb2;generalize hE:jE g vol=E at *;have PH:=aa hE;clear hE;obtain ⟨ep,ec,rfl,WH,ac6⟩:=kf.cap;have B2:=aa kf;clear kf;rw [fW] at WH ⊢;have aj8:=cm.o.size;have HX2:Hid (0<x.length->∃ b off,p3=some ⟨b,off,none⟩/\b<w2.heap.size/\ru w2 b off x):=aa fun h=>by
  obtain ⟨b,off,e,hb,hc⟩:=HX.o h;exact ⟨b,off,e,TcC,hc.below cm.o hb⟩
 have hxx:x.length<=9223372036854775807:=by omega
 go_upto_region 3 with (fail);go_loopw [10,19] (fun lv i wr=>∃ k:Nat,k<=E.length/\i=.int .i64 k/\bM wr w2.heap.size lv (mQ (E.take k) dn x)/\Below w2.heap.size w2 wr) (fun _ i _=>E.length - (intOf i).toNat)
 exact ⟨0,cg _,rfl,bM.nil _ _,bj _ _⟩;obtain ⟨k,hk,rfl,hown,hB⟩:=hrel;have HOW:=aa hown;clear hown;have HB:=aa hB;clear hB;have hbl:(mQ (E.take k) dn x).length<=300000:=by
  have h1:=Dj (E.take k) dn x;have h2:(E.take k).length*x.length<=10*30000:=ue (by rw [ey];omega) vh;omega
 by_cases hlt:k<E.length
 ·obtain ⟨e,he⟩:=aj E k hlt;obtain ⟨b,off,us,rfl,gR,cX,ez,eE,hcv⟩:=B2.o.elem (k:=k) (x:=(⟨false,e.1,e.2⟩:aR)) (by rw [rI,he];rfl);obtain rfl:us=_:=eE;have cT:wr.heap[b]?=w2.heap[b]?:=HB.o.block b cX;obtain ⟨q0,q1,q2⟩:=Mn cT hcv;dsimp only at q1 q2;have HSN:=aa (BD dn x he);have mA:=HB.o.size;clear he hcv ez cT;have hA:=ae wr (.cells (Tas e.1 e.2) 53);have yb:=aa (b9 wr (.cells (Tas e.1 e.2) 53));have cJ:=aa (HB.o.trans (hA.mono mA));have HOW3:=aa (HOW.o.below hA);clear hA;go_upto_region 6 with (fail);clear q0 q1 q2;generalize hW3:World.alloc wr _=W3 at *;generalize NU:wr.heap.size=Ba at *;clear hW3 HB HOW;generalize hL0:mQ (E.take k) dn x=L0 at *;have QX:=aa hL0;clear hL0;go_loopw [10,25] (fun lv i wi=>∃ j:Nat,j<=x.length/\i=.int .i64 j/\bM wi w2.heap.size lv (L0++su dn e (x.take j))/\wi.heap[Ba]?=some (.cells (Tas e.1 e.2) 53 (0,0))/\Below w2.heap.size w2 wi) (fun _ i _=>x.length - (intOf i).toNat)
  exact ⟨0,cg _,rfl,by rw [iv,show su dn e []=[] from rfl,eM];exact HOW3.o,yb.o,cJ.o⟩;clear yb cJ HOW3;obtain ⟨j,hj,rfl,hown,Sr,hB⟩:=hrel;have HOW:=aa hown;clear hown;have HB:=aa hB;clear hB;have yb:=aa Sr;clear Sr;have Sw:=HB.o.size;have Qu:=wT dn e (x.take j);rw [ey] at Qu;by_cases hlt2:j<x.length
  ·obtain ⟨r,hr⟩:=aj x j hlt2;obtain ⟨b4,off4,hp3,hb4,hc4⟩:=HX2.o TcC;subst hp3;have hc:=hc4.below HB.o hb4 j r hr;have x0:=hc.1;have x1:=hc.2;have fl:=aa (AP dn e hr);have sB:=Qp.o r (ct hr);obtain ⟨hr1,hr2,hr3⟩:=sB;clear hc hc4 hr;have WI:=aq yb.o;have hA:=ae wr (.cells #[.int .i64 r.1,.int .i64 r.2] 55);have YZ:=aa (b9 wr (.cells #[.int .i64 r.1,.int .i64 r.2] 55));have eI:=aa (HB.o.trans (hA.mono Sw));have HOW4:=aa (HOW.o.below hA);have ar2:=aa ((hA.block _ WI).trans yb.o);clear hA;go_upto_region 8 with (fail);clear x0 x1;generalize hW5:World.alloc wr _=W5 at *;generalize Rz:wr.heap.size=Br at *;clear hW5 HB HOW yb;have a1:=cr ar2.o 1 _ rfl;have a2:=cr ar2.o 2 _ rfl;have r0:=cr YZ.o 0 _ rfl;have r1:=cr YZ.o 1 _ rfl;have hwr:IntKind.i64.wrap (r.1+r.2)=r.1+r.2:=dy _ TcC;by_cases hen:e.1=dn
   ·have hb1:(e.1.toList == dn.toList)=true:=by rw [hen];simp
    have Sv:=aa hen;clear hen;by_cases h1:r.1<=e.2
    ·by_cases h2:e.2<r.1+r.2
     ·rw [aw ⟨Sv.o,h1,h2⟩] at fl;have TL:IntKind.i64.wrap (r.1+r.2 - e.2)=r.1+r.2 - e.2:=dy _ TcC;have WJ:=eI.o.size;go_wp2_with (at_builtin;refine jg rfl _ _ rfl w2.heap.size _ (L0++su dn e (x.take j)) (e.2,r.1+r.2 - e.2) rfl ?c1 W5.heap.size 1 rfl ?c2 ?c3 ?c4 ?c5 ?_)
      case c1=>exact HOW4.o.below (ae _ _)
      all_goals first | (case c2=>exact aD rfl rfl) | (case c3=>exact aD rfl rfl) | (case c4=>rw [cD];omega) | (case c5=>simp;omega) | skip
      intro v' w6 hown1 hb1' hg1;have hA:=ae W5 (.cells #[.int .i64 e.2,.int .i64 (r.1+r.2 - e.2)] 55);have Nw:=(hA.block _ (aq ar2.o)).trans ar2.o;have Tq:=aa ((eI.o.trans (hA.mono WJ)).trans hb1');have WK:=aa ((hg1.block Ba (aq Nw) (fun e=>(HOW4.o.below hA).ne Nw TcF e.symm)).trans Nw);have HOW6:=aa hown1;clear hA Nw hb1' hg1 hown1 a1 a2 r0 r1;go_wp2;go_roundw;exact ⟨j+1,TcC,TcG,by rw [fl.o];first | exact HOW6.o | (rw [<- cV];exact HOW6.o),WK.o,Tq.o⟩;simp [intOf];omega
     rw [bh (fun c=>h2 c.2.2),eM] at fl;exact TbC
    rw [bh (fun c=>h1 c.2.1),eM] at fl;exact TbC
   have hb1:=jI hen;rw [bh (fun c=>hen c.1),eM] at fl;have Sv:=aa hen;clear hen;exact TbC
  obtain rfl:j=x.length:=by omega
  rw [cI] at HOW;have WL:Hid (bM wr w2.heap.size _ (mQ (E.take (k+1)) dn x)):=aa (by rw [HSN.o];exact HOW.o);clear HOW;go_wp2;go_roundw;exact ⟨k+1,TcC,TcG,WL.o,HB.o⟩;simp [intOf];omega
 obtain rfl:k=E.length:=by omega
 rw [cI] at HOW hbl;have HV:=aa (xS (ends:=E) (nm:=dn) Qp.o);have HN:=aa (tJ (mQ E dn x) _ wr HOW.o.rd HV.o TcC);have fy:Hid (Below w.heap.size w wr):=aa (cm.o.trans (HB.o.mono aj8));clear HOW;go_wp2_with fail;refine HN.o.mono ?_;rintro e' w7 ⟨v7,x7,rfl,ho7,hn7,hl7,hb7⟩;have HO7:=aa ho7;clear ho7;have Sx:=aa hn7;clear hn7;have wk:=Zbl fy hb7;have Zu:=aa fy.o.size;clear hb7;go_wp2;go_ret2;exact ⟨v7,x7,rfl,HO7.o.mono Zu.o,Sx.o,TcC,wk.o⟩
theorem TeM {p:Prop}(h:p:=by unfold aK;rw [aw ho];exact List.mem_map.2 ⟨a,ha,rfl⟩):p:=h
end Go.Proofs.YtaagglbgohjldaaGreatDoor
