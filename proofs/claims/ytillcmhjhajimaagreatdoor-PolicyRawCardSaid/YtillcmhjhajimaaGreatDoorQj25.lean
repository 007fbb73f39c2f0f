/- Lemmas: NeaA, RpD, NdA, NdB, NdE, NdC. -/
import Derived.Test.YtillcmhjhajimaaGreatDoorQj23
set_option maxRecDepth 100000
set_option maxHeartbeats 32000000
set_option linter.all false
namespace Go.Proofs.YtillcmhjhajimaaGreatDoor
open Go.Proofs.Tryz
open Go.RowKit Go.Maps Go.Shelf
variable {y x:ByteArray}{k i:Nat}{F9:List ay}{l0 l:List ByteArray}
theorem Ez(Q:Exit->Act->World->Prop){c0 c1 c2 c3 c4 c5 c6 c10 c11 c12 c13 c14 c15 c16 c17 c18 c19 c20 c21 c22 c23 c24 c25 c26 c27 c28 c29 c30 c31 c32 c33 c34 c35 c36 c37 c38 c39 c40 c41 c42 c43 c44 c45 c46 c47 c48 c49 c50 c51 c52 c53 c54 c55 c56 c57 c58 c59 c60 c61 c62 c63 c64 c65 c66 c67 c68 c69 c70 c71 c72:Value}(w:World)(B Bs b3 off3 k:Nat)(eN:Option Addr)(ac eR:Nat)(s:aB)(a:aR)(v8:Value)(l:List aR)
  (hB:B<=w.heap.size) (Tt:k<s.Ga.length) (Q1:s.Ga.length<=1000) (Rn:l.length<=100000) (hlen:0<=s.length/\s.length<=1000000) (hst:0<=a.start/\a.start<=1000000)
  (hs:w.heap[Bs]?=some (.cells (Tae s (some ⟨b3,off3,none⟩) ac eN eR) 88 (0,0))) (hb3:b3<w.heap.size) (ha1:w.cell? (b3,off3+k*3+1)=some (.string a.on)) (ha2:w.cell? (b3,off3+k*3+2)=some (.int .i64 a.start))
  (hO:iC B w v8 l)
  (HK:Hid (∀(v':Value) (w':World) (u53 u54 u55 u56 u57 u58 u59 u60 u61 u62 u63 u64 u65 u66 u67 u68 u69 u70 u71:Value),iC B w' v' (l++[kJ s a])->Below B w w'->w'.heap[Bs]?=w.heap[Bs]?->Q .normal ⟨#[c0,c1,c2,c3,c4,c5,c6,.pointer (some Bs),v',.int .i64 (k:Int),c10,c11,c12,c13,c14,c15,c16,c17,c18,c19,c20,c21,c22,c23,c24,c25,c26,c27,c28,c29,c30,c31,c32,c33,c34,c35,c36,c37,c38,c39,c40,c41,c42,c43,c44,c45,c46,c47,c48,c49,c50,c51,c52,u53,u54,u55,u56,u57,u58,u59,u60,u61,u62,u63,u64,u65,u66,u67,u68,u69,u70,u71,c72],[]⟩ w'))
  (hQ:∀c (a:Act) (d:Tmp) (v:Value) w,Q (.panic c) (a.put (some d) v) w->Q (.panic c) a w) :
  (Ai Tryz.f39 12).wp prog Q ⟨#[c0,c1,c2,c3,c4,c5,c6,.pointer (some Bs),v8,.int .i64 (k:Int),c10,c11,c12,c13,c14,c15,c16,c17,c18,c19,c20,c21,c22,c23,c24,c25,c26,c27,c28,c29,c30,c31,c32,c33,c34,c35,c36,c37,c38,c39,c40,c41,c42,c43,c44,c45,c46,c47,c48,c49,c50,c51,c52,c53,c54,c55,c56,c57,c58,c59,c60,c61,c62,c63,c64,c65,c66,c67,c68,c69,c70,c71,c72],[]⟩ w:=by
 conv=>arg 2;whnf
 have GF:=aq hs;have sL:∀(j:Nat) (z:Value),[.int .i64 s.start,.int .i64 s.length,.int .i64 s.kind,.slice (some (b3,off3)) s.Ga.length ac,.int .i64 s.chunk,.slice eN s.stale.length eR,.string s.log,.string s.pool,.int .i64 s.device,.int .i64 s.mode,.int .i64 s.done][j]?=some z->∀q:fo,(ext w q).cell? ⟨Bs,j,none⟩=some z:=fun j z hz=>aG GF (by
  simp only[World.cell?,hs];simpa using hz)
 obtain⟨s0,s1,s2,s3,s4,s5,s6,s7,s8,s9,s10⟩:=IC sL;have a1:=aG hb3 ha1;have a2:=aG hb3 ha2;have HO:=aa hO;clear hO;have HS:=aa hs;clear hs;have hlen1:=hlen.1;have hlen2:=hlen.2;have hst1:=hst.1;have hst2:=hst.2;have he0:0<=iB s.kind s.length s.Ga.length:=by
  unfold iB;split
  ·exact lz hlen1 TcN
  exact hlen1
 have he1:iB s.kind s.length s.Ga.length<=1000000:=by
  unfold iB;split
  ·exact Int.le_trans (mS _ hlen1) hlen2
  exact hlen2
 obtain⟨i0,hi,hz0,hz1,hz2⟩:=gg kL;have HI:=aa hi;clear hi;have H0:=aa hz0;clear hz0;have H1:=aa hz1;clear hz1;have H2:=aa hz2;clear hz2;have HEA:Hid (kJ s a=⟨false,a.on,a.start+iB s.kind s.length s.Ga.length⟩):=aa rfl;have Ss:=aa (fun w':World=>Im s.start s.length s.kind s.chunk s.device s.mode s.done (some ⟨b3,off3,none⟩) eN s.Ga.length ac s.stale.length eR s.log s.pool w' hlen1 TcN TcN);generalize hex:iB s.kind s.length s.Ga.length=ex at *;have hwr:IntKind.i64.wrap (a.start+ex)=a.start+ex:=dy _ TcN;clear sL ha1 ha2 hlen hst hex;(refine lG _ 16 TcP rfl rfl TcP TcP (fun _ _ _ _ h=>hQ _ _ _ _ _ h) TdT ?_;simp only[xi,iv,cQ,cL])
 repeat(go_big_quiet_step ((go_at_call 63;exact iH (Ss.o _))))
 with_reducible refine fR ?_
 intro wq ia;have kq:=dY ia;clear ia s0 s1 s2 s3 s4 s5 s6 s7 s8 s9 s10 a1 a2 Ss;have hO2:=HO.o.below kq;have G2:=ae wq (.cells #[.bool false,.string a.on,.int .i64 (a.start+ex)] 83);have hO3:=hO2.below G2;have HO3:=aa hO3;have pL:=aa G2;have o0:=aa kq;have PF:=cA hB kq.size;clear hO2 hO3 G2 kq;go_wp2_with(at_builtin;refine dX aQ.moves underlying86 HI.o H0.o H1.o H2.o rfl TcQ TcQ rfl _ _ rfl B (fun _=>False) v8 l ⟨false,a.on,a.start+ex⟩ rfl HO3.o wq.heap.size 1 [.bool false,.string a.on,.int .i64 (a.start+ex)] rfl rfl rfl ?d3 ?d4 ?d5 ?d6 (fun _ _ f=>f) ?_)
 all_goals first|(case d3=>(simp[Value.oneCell']))|(case d4=>(intro j y hy;exact aD rfl Tc6))|(case d5=>omega)|(case d6=>omega)|(case d6=>simp only[cW];omega)|skip
 intro gb cap w3 hp;have CT:∀j,j<w.heap.size->v8.ownBlock≠some j->w3.heap[j]?=w.heap[j]?:=fun j hj hne=>(hp.grown.block j (cC hj (cA o0.o.size pL.o.size)) (fun e=>hne e.symm)).trans ((pL.o.block j (cC hj o0.o.size)).trans (o0.o.block j hj));have jn:Below B w w3:=((o0.o.mono hB).trans (pL.o.mono PF)).grown hp.grown Td5 (fun j e=>(HO3.o.ge e).1);have hS:=CT Bs GF (HO.o.notSeg HS.o);have Qt:=hp.own;rw[<- HEA.o]at Qt;have HOW:=aa Qt;have PG:=aa jn;have Mx:=aa hS;clear hp Qt jn hS CT;go_wp2;exact HK.o _ _ _ _ _ _ _ _ _ _ _ _ _ _ _ _ _ _ _ _ _ HOW.o PG.o Mx.o
theorem Lj{ok:Nat->Prop}(g:af)(a:bN)(nm:ByteArray)(w:World)(hr:b6 aN 6 ok w [.slice a.vp g.F9.length a.vc] g.F9)(mb:g.F9.length<=1000000)(ht:qx g.F9)(CH:∀v∈g.F9,∀s∈v.Gf,fP s->∀a∈s.Ga,0<=a.start/\a.start<=1000000) :
  Calls prog 39 #[.agg (Tad g a),.string nm] w (D7 w (jE g nm)):=by
 have HG:=aa hr;clear hr;have hA1:=ae w (.cells (Tad g a) 32);have cU:=aa hA1;clear hA1;have CN:=aa (b9 w (.cells (Tad g a) 32));have gL:=cr CN.o;go_enter func39,ntmps39
 go_upto_region 1 with(fail);generalize hW1:World.alloc w _=W1 at *;obtain⟨g0,g1,g2,g3,g4,g5,g6,g7,g8⟩:=xr gL;clear gL hW1;have Q5:=aa (aj7 (ok:=fun b=>ok b/\b<w.heap.size) g a nm W1 ((b6.moves aN.moves).mv ⟨cU.o.size,fun b hb ho=>⟨⟨ho,hb⟩,cU.o.block b hb⟩⟩ HG.o) mb);go_wp2_with fail;clear g0 g1 g2 g3 g4 g5 g6 g7 g8;refine Q5.o.mono ?_;clear Q5;rintro e w2 ⟨u,kx,rfl,sA,hks,hb2⟩;have eE:((aM g.F9 nm).getD eY).Gf.length<=1000/\∀s∈((aM g.F9 nm).getD eY).Gf,((0<=s.length/\s.length<=1000000)/\s.Ga.length<=1000/\(fP s->∀a∈s.Ga,a.vol=false))/\(fP s->∀a∈s.Ga,0<=a.start/\a.start<=1000000):=by
  exact Tbz
 have XU:=aa eE.2;have mb:=eE.1;have PH:Hid (jE g nm=oZ ((aM g.F9 nm).getD eY).Gf):=aa rfl;have Ty:Hid ((aM g.F9 nm).isSome=false->((aM g.F9 nm).getD eY).Gf.length=0):=aa fun q=>by
  cases hf:aM g.F9 nm with
  |none=>rfl
  |some v=>rw[hf]at q;cases q
 generalize (aM g.F9 nm).isSome=YW at *;generalize hv:(aM g.F9 nm).getD eY=v at *;have cm:=Zbl cU hb2;obtain⟨tv,sv,rfl,ew,fL⟩:=sA;obtain⟨tp,tc,rfl,_,_⟩:=ew.cap;obtain⟨sp,sc,rfl,hsc1,hsc2⟩:=fL.cap;clear ew hb2 hv eE ht CH;have hA:=ae w2 (.cells (Taf v tp tc sp sc) 57);have zv:=aa (b9 w2 (.cells (Taf v tp tc sp sc) 57));have cJ:=Zbl cm hA;have Zv:=aa ((b6.moves bC.moves).mv (Mv.of hA) fL);clear fL hA cm;go_upto_region 2 with(fail);generalize hW3:World.alloc w2 _=W3 at *;generalize XK:w2.heap.size=Bv at *;clear hW3;have v5:=cr zv.o 5 _ rfl;by_cases h0:v.Gf.length=0
 ·have HE:Hid (oZ v.Gf=[]):=aa (yg (fX h0));clear Ty hks;cases hkx:decide (kx<0)with
  |true =>
   go_wp2;go_ret;exact⟨_,rfl,Tel,cJ.o⟩
  |false =>
   go_wp2;go_ret;exact⟨_,rfl,Tel,cJ.o⟩
 have hkx:decide (kx<0)=false:=by
  rw[hks];cases YW with
  |true=>rfl
  |false=>exact absurd (Ty.o rfl) h0
 clear Ty hks;obtain⟨s,hs⟩:=aj v.Gf (v.Gf.length-1) TcN;have HE:=aa (Dn TcN hs);obtain⟨b,off,us,hsp,gR,cX,ez,eE,hcv⟩:=Zv.o.elem hs;subst hsp;have Su:=aa (XU.o s (ct hs));obtain⟨av,Oz,rfl,mC,hst⟩:=eE;obtain⟨ap,ac,rfl,_,_⟩:=mC.cap;obtain⟨eN,eR,rfl,_,_⟩:=hst.cap;have cT:W3.heap[b]?=W3.heap[b]?:=rfl;obtain⟨q0,q1,q2,q3,q4,q5,q6,q7,q8,q9,q10⟩:=ak5 cT hcv;have YX:((v.Gf.length:Int)-1)=((v.Gf.length-1:Nat):Int):=by omega
 clear hs hcv ez cT hst XU;have hA:=ae W3 (.cells (Tae s ap ac eN eR) 88);have lj:=aa (b9 W3 (.cells (Tae s ap ac eN eR) 88));have eI:=Zbl cJ hA;have ya:=aa ((b6.moves aQ.moves).mv (Mv.of hA) mC);clear mC hA cJ;go_upto_region 4 with(fail);go_upto_region 5 with(fail);generalize hW4:World.alloc W3 _=W4 at *;generalize XL:W3.heap.size=Bs at *;clear hW4 q0 q1 q2 q3 q4 q5 q6 q7 q8 q9 q10 v5;have s2:=cr lj.o 2 _ rfl;by_cases hk:s.kind=1\/s.kind=2
 ·have qT:Hid (jE g nm=qN s):=aa (by rw[PH.o,HE.o,aw hk]);have G0:fP s:=by rcases hk with q|q;exact .inl q;exact .inr (.inl q)
  have Oc:=aa (Su.o.1.2.2 G0);have sY:=aa (Su.o.2 G0);have Q1:=Su.o.1.2.1;have HLN:=aa Su.o.1.1;clear HE PH Su G0;have key:(s.kind != 1)=false\/((s.kind != 1)=true/\(s.kind != 2)=false):=by
   exact Tcc
  clear hk;have Zu:Hid (w.heap.size<=W4.heap.size):=aa eI.o.size;rcases key with n1|⟨n1,n2⟩<;>(
   (go_upto_region 7 with(fail))
   (try clear n2)
   clear n1 s2 YX hkx;(go_upto_region 8 with(fail))
   (go_upto_region 9 with(fail))
   (go_loopw[8,9] (fun lv i wr=>∃k:Nat,k<=s.Ga.length/\i=.int .i64 k/\iC W4.heap.size wr lv ((s.Ga.take k).map (kJ s))/\Below W4.heap.size W4 wr) (fun _ i _=>s.Ga.length-(intOf i).toNat))
   exact⟨0,cg _,rfl,iC.nil _ _,bj _ _⟩;obtain⟨k,hk,rfl,hown,hB⟩:=hrel;have HOW:=aa hown;clear hown;have HB:=aa hB;clear hB;have hsw:=(HB.o.block _ (aq lj.o)).trans lj.o;have s3:=cr hsw 3 _ rfl;clear hsw;by_cases hlt:k<s.Ga.length
   ·obtain⟨x,hx⟩:=aj s.Ga k hlt;obtain⟨b3,off3,us3,hsp3,B7,PV,pT,Tr,hcv3⟩:=ya.o.elem hx;subst hsp3;obtain rfl:us3=_:=Tr;have Tl:wr.heap[b3]?=W4.heap[b3]?:=HB.o.block b3 PV;obtain⟨q0,q1,q2⟩:=Mn Tl hcv3;have HTS:Hid ((s.Ga.take (k+1)).map (kJ s)=(s.Ga.take k).map (kJ s)++[kJ s x]):=aa (by rw[take_snoc' s.Ga k x hx,gl];rfl);have pS:=Oc.o x (ct hx);have hst:=sY.o x (ct hx);clear hx hcv3 pT Tl;rw[pS]at q0;have mA:=HB.o.size;go_upto_region 11 with(fail);go_upto_region 12 with(fail);clear q0;refine Ez _ wr W4.heap.size Bs b3 off3 k eN ac eR s x _ _ mA hlt Q1 (by rw[fW,ey];omega) HLN.o hst ((HB.o.block _ (aq lj.o)).trans lj.o) (cC PV mA) q1 q2 HOW.o (aa ?_) ?hQ
    case hQ=>exact fun _ _ _ _ _ h=>h
    intro v' w' u53 u54 u55 u56 u57 u58 u59 u60 u61 u62 u63 u64 u65 u66 u67 u68 u69 u70 u71 ho' hb' hs';have HO':=aa ho';clear ho';have Ks:=aa (HB.o.trans hb');clear hb' hs' q1 q2 s3;go_wp2;go_roundw;exact⟨k+1,TcN,TcR,by rw[HTS.o];exact HO'.o,Ks.o⟩;simp[intOf];omega
   obtain rfl:k=s.Ga.length:=by omega
   rw[cI]at HOW;have Ng:Hid ((jE g nm).map (fun x=>(⟨false,x.1,x.2⟩:aR))=s.Ga.map (kJ s)):=aa TeP;go_wp2;go_ret;exact⟨_,rfl,by rw[Ng.o];exact HOW.o.mono Zu.o,eI.o.trans (HB.o.mono Zu.o)⟩)
 exact Ta8
theorem wQ:∀(x:List (Int × Int)),(∀p∈x,1<=p.2)->(x.length:Int)<=Aw x
 |[],_=>by simp[Aw]
 |p :: x,h=>by
  have h1:=wQ x (fun q hq=>h q (kn _ hq));have h2:=h p cG;simp only[Aw,iu,List.sum_cons,cS]at h1 ⊢;omega
theorem CJ{vs:List ay}(h:qx vs):∀p∈pieces vs,0<=p.len/\p.len<=1000000:=fun p hp=>by
 obtain⟨v,hv,hp⟩:=List.mem_flatMap.1 hp;obtain⟨s,hs,hp⟩:=List.mem_flatMap.1 hp;obtain⟨_,a,ha,rfl⟩:=gK hp;have h1:=((h v hv).2 s hs).1;have h2:=zV (k:=s.kind) (n:=s.Ga.length) h1.1;exact⟨h2.1,Int.le_trans h2.2 h1.2⟩
def nrL(es:List (ByteArray × Int))(nm:ByteArray)(f:Int × Int):List (Int × Int):=es.flatMap fun e=>if e.1=nm/\e.2=f.1 then [f] else []
def tC(g:af)(r:aY)(d:az)(y:List (Int × Int)):Prop:=if nD g r d=true then ∃x,iE x (xy g d)/\dI x=true/\y=(if uM r=true then x.flatMap (nrL (jE g r.near) d.name) else x) else y=[]
def RPX(g:af)(r:aY)(ys:List (List (Int × Int))):Prop:=∀(i:Nat) (d:az) (y:List (Int × Int)),g.Gb[i]?=some d->ys[i]?=some y->tC g r d y/\y.length<=600000
theorem RPX.snoc{g:af}{r:aY}{ys:List (List (Int × Int))}{d:az}{y:List (Int × Int)}(h:RPX g r ys)(hd:g.Gb[ys.length]?=some d)(h1:tC g r d y)(h3:y.length<=600000):RPX g r (ys++[y]):=by
 intro i d' z hd' hz;by_cases hi:i<ys.length
 ·rw[Fo hi]at hz;exact h i d' z hd' hz
 have hl:=(List.getElem?_eq_some_iff.1 hz).1;rw[cD,A4]at hl;obtain rfl:i=ys.length:=by omega
 rw[hd]at hd';obtain rfl:=gj hd';obtain rfl:y=z:=by simpa using hz
 exact⟨h1,h3⟩
theorem LX{es:List (ByteArray × Int)}{j:Nat}{e:ByteArray × Int}(nm:ByteArray)(f:Int × Int)(h:es[j]?=some e):nrL (es.take (j+1)) nm f=nrL (es.take j) nm f++(if e.1=nm/\e.2=f.1 then [f] else []):=by
 rw[take_snoc' es j e h];simp[nrL]
theorem JS(es:List (ByteArray × Int))(nm:ByteArray)(f:Int × Int):(nrL es nm f).length<=es.length*1:=lY _ _ _ fun e _=>by split<;>simp
theorem Ma{α β:Type}{l:List α}{x:α}(f:α->List β)(h:l[k]?=some x):(l.take (k+1)).flatMap f=(l.take k).flatMap f++f x:=by
 rw[take_snoc' l k x h];simp
def gW(F9:List ay)(x:ByteArray):List ByteArray:=kY ((aM F9 x).getD eY)
theorem uy(F9:List ay)(x:ByteArray):gW F9 x=(dU F9 x).getD []:=by
 unfold gW dU;cases aM F9 x<;>rfl
theorem mem_pickG {α : Type} (nm : α->ByteArray) (p : ByteArray->Bool) (l : List α) (x : ByteArray) : x ∈ gD nm p l↔p x = true/\∃ y ∈ l, nm y = x:=by
 have : ∀ (l : List α) (o : List ByteArray), x ∈ l.foldl (fun out y=>if (p (nm y) && !bI out (nm y)) = true then out ++ [nm y] else out) o↔x ∈ o\/p x = true/\∃ y ∈ l, nm y = x:=by
  intro l
  induction l with
  | nil=>intro o; simp
  | cons y l ih=>
   intro o
   rw [List.foldl_cons, ih]
   have h1 : x ∈ (if (p (nm y) && !bI o (nm y)) = true then o ++ [nm y] else o)↔x ∈ o\/p x = true/\nm y = x:=by
    by_cases hc : (p (nm y) && !bI o (nm y)) = true
    ·rw [if_pos hc, List.mem_append, List.mem_singleton]
     rw [Bool.and_eq_true] at hc
     constructor
     ·rintro (h | rfl)
      ·exact .inl h
      ·exact .inr ⟨hc.1, rfl⟩
     ·rintro (h | ⟨_, rfl⟩)
      ·exact .inl h
      ·exact .inr rfl
    ·rw [if_neg hc]
     refine ⟨.inl, ?_⟩
     rintro (h | ⟨h1, rfl⟩)
     ·exact h
     ·rw [h1, Bool.true_and] at hc
      simpa [ny] using hc
   rw [h1]
   constructor
   ·rintro ((h | ⟨h2, h3⟩) | ⟨h2, z, hz, h3⟩)
    ·exact .inl h
    ·exact .inr ⟨h2, y, List.mem_cons_self, h3⟩
    ·exact .inr ⟨h2, z, List.mem_cons_of_mem _ hz, h3⟩
   ·rintro (h | ⟨h2, z, hz, h3⟩)
    ·exact .inl (.inl h)
    ·rcases List.mem_cons.1 hz with rfl | hz
     ·exact .inl (.inr ⟨h2, h3⟩)
     ·exact .inr ⟨h2, z, hz, h3⟩
 simpa [gD] using this l []
inductive RR (F9:List ay)(l0:List ByteArray):ByteArray->Prop
 |base {x:ByteArray}:x∈l0->RR F9 l0 x
 |step {x y:ByteArray}:RR F9 l0 y->x∈gW F9 y->RR F9 l0 x
theorem RR.reach {vols : List ay} {l0 : List ByteArray} {x : ByteArray} (h : RR vols l0 x) : (dU vols x).isSome = true → Reach (dU vols) l0 x := by
 induction h with
 | base h => exact fun hs => .base h hs
 | @step x y _ h ih =>
  intro hs
  rw [uy] at h
  cases hl : dU vols y with
  | none => rw [hl] at h; cases h
  | some l => rw [hl] at h ih; exact .step (ih rfl) hl h hs
theorem reach_rr {vols : List ay} {l0 : List ByteArray} {x : ByteArray} (h : Reach (dU vols) l0 x) : RR vols l0 x ∧ (dU vols x).isSome = true := by
 induction h with
 | base h hs => exact ⟨.base h, hs⟩
 | step _ hl h hs ih => exact ⟨.step ih.1 (by rw [uy, hl]; exact h), hs⟩
structure uj(F9:List ay)(l0 l:List ByteArray)(i:Nat):Prop where
 b:∀x∈l0,x∈l
 s:∀x∈l,RR F9 l0 x
 c:∀(j:Nat) (y:ByteArray),j<i->l[j]?=some y->∀x∈gW F9 y,x∈l
theorem uj.start :uj F9 l0 l0 0:=⟨fun _ h=>h,fun _ h=>.base h,fun j _ hj=>by omega⟩
theorem uj.done(h:uj F9 l0 l i)(hi:l.length<=i)(x:ByteArray):x∈l↔RR F9 l0 x:=by
 refine⟨h.s x,fun r=>?_⟩;induction r with
 |base h1=>exact h.b _ h1
 |step _ h2 ih =>
  obtain⟨j,hj,e⟩:=List.getElem_of_mem ih;exact h.c j _ TcN (by rw[lO hj,e]) _ h2
structure qj(F9:List ay)(l0 l:List ByteArray)(i:Nat)(y:ByteArray)(k:Nat):Prop extends uj F9 l0 l i where
 at_:l[i]?=some y
 up:∀x∈(gW F9 y).take k,x∈l
theorem uj.open(h:uj F9 l0 l i)(hy:l[i]?=some y):qj F9 l0 l i y 0:=⟨h,hy,fun x hx=>by simp at hx⟩
theorem qj.shut(h:qj F9 l0 l i y (gW F9 y).length):uj F9 l0 l (i+1):=⟨h.b,h.s,fun j z hj hz x hx=>by
 by_cases e:j=i
 ·subst e;rw[h.at_]at hz;injection hz with hz;subst hz;exact h.up x (by rw[cI];exact hx)
 exact h.c j z TcN hz x hx⟩
theorem qj.skip(h:qj F9 l0 l i y k)(hx:(gW F9 y)[k]?=some x)(hm:bI l x=true):qj F9 l0 l i y (k+1):=⟨h.touj,h.at_,fun z hz=>by
 rw[take_snoc' _ k x hx]at hz;rcases List.mem_append.1 hz with hz|hz
 ·exact h.up z hz
 obtain rfl:=List.mem_singleton.1 hz;exact ny.1 hm⟩
theorem qj.more(h:qj F9 l0 l i y k)(hx:(gW F9 y)[k]?=some x):qj F9 l0 (l++[x]) i y (k+1):=by
 have hi:=(List.getElem?_eq_some_iff.1 h.at_).1;refine⟨⟨fun z hz=>ju _ (h.b z hz),fun z hz=>?_,fun j z hj hz q hq=>?_⟩,?_,fun z hz=>?_⟩
 ·rcases List.mem_append.1 hz with hz|hz
  ·exact h.s z hz
  obtain rfl:=List.mem_singleton.1 hz;exact .step (h.s y (ct h.at_)) (ct hx)
 ·rw[Fo TcN]at hz;exact ju _ (h.c j z hj hz q hq)
 ·rw[Fo hi];exact h.at_
 rw[take_snoc' _ k x hx]at hz;rcases List.mem_append.1 hz with hz|hz
 ·exact ju _ (h.up z hz)
 exact P9 _ hz
variable {g:af}{l:List ByteArray}{c1 c3 c5 c6 c9 c11 c12 c13 c14 c15 c16 c17 c18 c19 c20 c21 c22 c23 c24 c25 c26 c27 c28 c29 c30 c31 c32 c33 c34 c35 c36 c37 c38 c39 c40 c41 c42 c43 c44 c45 c46 c47 c48 c49 c50 c51 c52 c53 c54 c55 c56 c57 c58 c59 c60 c61 c62 c63 c64 c65 c66 c67 c68 c69 c70 c71 c72 c73 c74 c75 c76 c77 c78 c79 c80 c81:Value}
open Classical in
theorem LM{nm:ByteArray}(h:∀x,x∈l↔RR g.F9 (gW g.F9 nm) x):gD az.name (fun d=>([nm]++gD ay.name (bI l) g.F9).any (XZ g.F9 d)) g.Gb=sP g nm:=by
 unfold sP;congr 1
 funext d
 rw[mN,nh,nh];have key:∀x,XZ g.F9 d x=true->(x∈[nm]++gD ay.name (bI l) g.F9↔x∈mR g.F9 nm):=fun x hx=>by
  have hs:∃v,aM g.F9 x=some v:=by
   cases hf:aM g.F9 x with
   |some v=>exact⟨v,rfl⟩
   |none=>unfold XZ at hx;rw[hf]at hx;cases hx
  obtain⟨v,hv⟩:=hs;have hlk:(dU g.F9 x).isSome=true:=by unfold dU;rw[hv];rfl
  have as6:∃y∈g.F9,y.name=x:=⟨v,eV hv,by simpa using List.find?_some hv⟩;unfold mR;rw[oT,List.mem_singleton,mem_pickG,mem_pickG,ny,h,uy];unfold Fj;rw[decide_eq_true_iff];constructor
  ·rintro(rfl|⟨h1,h2⟩)
   ·exact⟨.inl rfl,as6⟩
   exact⟨.inr (h1.reach hlk),h2⟩
  rintro⟨rfl|h1,h2⟩
  ·exact .inl rfl
  exact .inr ⟨(reach_rr h1).1,h2⟩
 constructor
 ·rintro⟨x,h1,h2⟩;exact⟨x,(key x h2).1 h1,h2⟩
 rintro⟨x,h1,h2⟩;exact⟨x,(key x h2).2 h1,h2⟩
theorem jb{ok:Nat->Prop}(l:List ByteArray)(v:Value)(x:ByteArray)(w:World)(h:b6 aF 1 ok w [v] l)(hl:l.length<=10000000) :
  Calls prog 106 #[v,.string x] w fun e w'=>e=.returned (.bool (bI l x))/\w=w':=by
 obtain⟨p,cap,rfl,hc1,hc2⟩:=h.cap;have HH:=aa h;clear h;go_enter func106,ntmps106;exact TaT
theorem xY{ok ok':Nat->Prop}(g:af)(a:bN)(l:List ByteArray)(lv:Value)(w:World)(hr:b6 aN 6 ok w [.slice a.vp g.F9.length a.vc] g.F9)(mb:g.F9.length<=1000)(hl:b6 aF 1 ok' w [lv] l)(Rn:l.length<=10000000) :
  Calls prog 153 #[.agg (Tad g a),lv] w (Dx w.heap.size w (gD ay.name (bI l) g.F9)):=by
 have HG:=aa hr;clear hr;obtain⟨lp,lc,rfl,_,_⟩:=hl.cap;have HL:=aa hl;clear hl;have Pj:=aa (ae w (.cells (Tad g a) 32));have Mj:=aa (b9 w (.cells (Tad g a) 32));go_enter func153,ntmps153
 go_upto_region 3 with(fail);generalize World.alloc w _=W1 at *;generalize Ms:w.heap.size=Bg at Mj ⊢;clear Ms;have hbg:=aq Mj.o;go_loopw[5,6] (fun o i wr=>∃k:Nat,k<=g.F9.length/\i=.int .i64 k/\dF wr W1.heap.size o (gD ay.name (bI l) (g.F9.take k))/\Below W1.heap.size W1 wr) (fun _ i _=>g.F9.length-(intOf i).toNat)
 exact⟨0,cg _,rfl,dF.nil _ _,bj _ _⟩;obtain⟨k,hk,rfl,hown,hB⟩:=hrel;have HOW:=aa hown;clear hown;have HB:=aa hB;clear hB;have hpl:=lq ay.name (bI l) (g.F9.take k);rw[ey]at hpl;have mA:=HB.o.size;have aK1:=Pj.o.size;have g7:wr.cell? (Tac Bg 7)=some (.slice a.vp g.F9.length a.vc):=mi ((HB.o.block _ hbg).trans Mj.o) 7 _ rfl;by_cases hlt:k<g.F9.length
 ·obtain⟨v,hv⟩:=aj g.F9 k hlt;obtain⟨b,off,us,hsp,gR,cX,ez,eE,hcv⟩:=HG.o.elem hv;obtain⟨tv,sv,rfl,ew,fL⟩:=eE;have cT:wr.heap[b]?=w.heap[b]?:=(HB.o.block b TcN).trans (Pj.o.block b cX);have q0:wr.cell? (b,off+k*6)=some (.string v.name):=by
   rw[<- hcv 0 _ rfl];simp only[World.cell?,cT,fg]
  rw[hsp]at g7;clear hsp;have sY:=aa (rJ ay.name (bI l) hv);clear hv hcv ez cT ew fL;have HW1:=aa (jb l _ v.name wr ((b6.moves aF.moves).mv (ok':=fun _=>True) ⟨TcN,fun b hb _=>⟨trivial,(HB.o.block b TcN).trans (Pj.o.block b hb)⟩⟩ HL.o) Rn);generalize Ps:gD ay.name (bI l) (g.F9.take k)=pl at *;have RL:=aa Ps;clear Ps;obtain⟨op,oc,e,_,_⟩:=(HOW.o.rd (ok:=fun _=>True) (fun _ _=>trivial)).cap;subst e;have HW2:=aa (jb (ok:=fun _=>True) pl _ v.name wr (HOW.o.rd (fun _ _=>trivial)) TcN);cases hh:bI l v.name with
  |false =>
   rw[hh]at HW1 sY;rw[Bool.false_and,bh TcO]at sY;have HH:=aa hh;clear hh HW2;go_wp2_with(refine HW1.o.mono ?_;rintro e w3 ⟨rfl,rfl⟩)
   go_roundw;exact⟨k+1,TcN,TcR,by rw[sY.o];exact HOW.o,HB.o⟩;simp[intOf];omega
  |true =>
   rw[hh]at HW1 sY;rw[Bool.true_and]at sY;have HH:=aa hh;clear hh;cases hc:bI pl v.name with
   |true =>
    rw[hc]at HW2 sY;rw[bh TcO]at sY;have HC:=aa hc;clear hc;go_wp2_with(fail)
    clear g7 q0;refine HW1.o.mono ?_;rintro e w3 ⟨rfl,rfl⟩;go_wp2_with(fail)
    refine HW2.o.mono ?_;rintro e w3 ⟨rfl,rfl⟩;go_wp2;go_roundw;exact⟨k+1,TcN,TcR,by rw[sY.o];exact HOW.o,HB.o⟩;simp[intOf];omega
   |false =>
    rw[hc]at HW2 sY;rw[aw TcO]at sY;have HC:=aa hc;clear hc;go_wp2_with(fail)
    clear g7 q0;refine HW1.o.mono ?_;rintro e w3 ⟨rfl,rfl⟩;go_wp2_with(fail)
    refine HW2.o.mono ?_;rintro e w3 ⟨rfl,rfl⟩;clear HW1 HW2;go_wp2_with(at_builtin;refine dz rfl _ _ rfl W1.heap.size _ pl v.name rfl ?c1 wr.heap.size 1 rfl ?c2 ?c3 ?c4 ?_)
    case c1=>exact HOW.o.alloc _
    case c2=>exact aD rfl rfl
    case c3=>omega
    case c4=>simp;omega
    intro v' w1 hown1 hb1 _;have eI:=aa ((HB.o.alloc mA _).trans hb1);have HOW4:=aa hown1;clear hb1 hown1;go_wp2;go_roundw;exact⟨k+1,TcN,TcR,Tev,eI.o⟩;simp[intOf];omega
 obtain rfl:k=g.F9.length:=by omega
 rw[cI]at HOW;have TF:=Zbl Pj HB.o;have HOZ:=aa (HOW.o.mono (B':=w.heap.size) Pj.o.size);go_wp2;go_ret;exact⟨_,rfl,HOZ.o,TF.o⟩
theorem TcA{p:Prop}(h:p:=by
 have h2:=(e.block Bg vh).trans hgb;exact⟨(e.cell (p:=⟨b3,off3+k,none⟩) hb3).trans hn,cr h2 _ _ rfl,cr h2 _ _ rfl,cr h2 _ _ rfl,cr h2 _ _ rfl,cr h2 _ _ rfl,cr h2 _ _ rfl,cr h2 _ _ rfl,cr h2 _ _ rfl,cr h2 _ _ rfl⟩):p:=h
theorem TaO{p:Prop}(h:p:=by
 conv=>arg 2;whnf
 have vh:=aq hgb;have hS:∀w':World,Below w.heap.size w w'->(w'.cell? (b3,off3+k)=some (.string nm)/\w'.cell? Bg=some (.string g.name)/\w'.cell? (Tac Bg 1)=some (.int .u64 g.id)/\w'.cell? (Tac Bg 2)=some (.int .i64 g.seq)/\w'.cell? (Tac Bg 3)=some (.int .i64 g.Gd)/\w'.cell? (Tac Bg 4)=some (.int .i64 g.next)/\w'.cell? (Tac Bg 5)=some (.slice a.tp g.tags.length a.tc)/\w'.cell? (Tac Bg 6)=some (.slice a.dp g.Gb.length a.dc)/\w'.cell? (Tac Bg 7)=some (.slice a.vp g.F9.length a.vc)/\w'.cell? (Tac Bg 8)=some (.slice a.hp g.history.length a.hc)):=fun w' e=>by
  exact TcA
 have HS:=aa hS;clear hS;have Rj:Hid (∀W:World,Below w.heap.size w W->dN (fun k=>ok k/\k<w.heap.size) W g a):=aa fun W hb=>hg.mv ⟨hb.size,fun k hk ho=>⟨⟨ho,hk⟩,hb.block k hk⟩⟩
 have hC:∀W:World,Below w.heap.size w W->Calls prog 47 #[.agg (Tad g a),.string nm] W fun e w'=>∃(tp:Option Addr) (tc:Nat) (sp:Option Addr) (sc:Nat) (kk:Int),e=.returned (.tuple #[.agg (Taf x tp tc sp sc),.int .i64 kk])/\decide (kk<0)=!Tz/\aN (fun k=>ok k/\k<w.heap.size) w' [.string x.name,.int .u64 x.id,.bool x.hidden,.bool x.ro,.slice tp x.tags.length tc,.slice sp x.Gf.length sc] x/\Below W.heap.size W w':=fun W hb=>by
  exact Tcx
 have HC:=aa hC;clear hC Yh N3 hg hgb hn TW Rj;refine aZ (fun w'=>w'.cell? (b3,off3+k)=some (.string nm)/\w'.cell? Bg=some (.string g.name)/\w'.cell? (Tac Bg 1)=some (.int .u64 g.id)/\w'.cell? (Tac Bg 2)=some (.int .i64 g.seq)/\w'.cell? (Tac Bg 3)=some (.int .i64 g.Gd)/\w'.cell? (Tac Bg 4)=some (.int .i64 g.next)/\w'.cell? (Tac Bg 5)=some (.slice a.tp g.tags.length a.tc)/\w'.cell? (Tac Bg 6)=some (.slice a.dp g.Gb.length a.dc)/\w'.cell? (Tac Bg 7)=some (.slice a.vp g.F9.length a.vc)/\w'.cell? (Tac Bg 8)=some (.slice a.hp g.history.length a.hc)) 12 [] TcP (HS.o _ (bj _ _).drew) (fun hHeld=>?_);refine cH hQ 0 hHeld ?_;refine cH hQ 1 hHeld ?_;refine cH hQ 2 hHeld ?_;refine cH hQ 3 hHeld ?_;refine cH hQ 4 hHeld ?_;refine mh (i:=5) (j:=9) rfl rfl rfl rfl TcP (fun K hK=>?_) (fun K hK=>?_)
 ·go_simp;refine(HC.o _ (bj _ _).drew).mono ?_;rintro e w1 ⟨tp,tc,sp,sc,kk,rfl,OU,hv1,hb1⟩;have MF:=aa OU;clear OU;have hb1':Below w.heap.size w w1:=⟨hb1.os,hb1.tape,hb1.output,hb1.size,hb1.block⟩;refine hK.o _ _ (HS.o _ hb1') ?_;clear hK K hHeld;have hHeld:=HS.o _ hb1';have Zx:=aa hv1;clear hv1 hb1;have cU:=aa hb1';clear hb1';refine cH hQ 6 hHeld ?_;refine cH hQ 7 hHeld ?_;refine cH hQ 8 hHeld ?_;refine lR 9 fun K hK=>?_;go_simp;have hb2:Below w.heap.size w (w1.alloc (.cells Tai 57)):=cU.o.alloc cU.o.size _;refine hK.o _ _ (HS.o _ hb2) ?_;clear hK K hHeld;have gh:=b9 w1 (.cells Tai 57);have mA:=cU.o.size;have hv2:aN (fun k=>ok k/\k<w.heap.size) (w1.alloc (.cells Tai 57)) [.string x.name,.int .u64 x.id,.bool x.hidden,.bool x.ro,.slice tp x.tags.length tc,.slice sp x.Gf.length sc] x:=aN.moves.mv ⟨TcO,fun k hk ho=>⟨ho,cj _ _ _ hk⟩⟩ Zx.o;generalize hW2:World.alloc w1 _=W2 at *;generalize hb0:w1.heap.size=b0 at *;clear hW2 hb0 Zx cU;have Vn:=aa hv2;clear hv2;obtain⟨zf,z0,z1,z2,z3,z4,z5⟩:=BO gh;obtain⟨sb,sk,so⟩:=zQ gh (.string x.name) (.int .u64 x.id) (.bool x.hidden) (.bool x.ro) (.slice tp x.tags.length tc) (.slice sp x.Gf.length sc) _ rfl;have cJ:=aa (sb _ _ mA hb2);have F2:=aa sk;have QW:=aa so;clear sb sk so gh;refine lR 10 fun K hK=>?_;go_simp;refine hK.o _ _ (HS.o _ cJ.o) ?_;clear hK K;refine lR 11 fun K hK=>?_;go_simp;refine hK.o _ _ (HS.o _ cJ.o) ?_;clear hK K;refine aP TcP rfl ?_;simp only[cQ,km,cL];exact HK.o _ _ _ _ kk b0 _ _ _ _ _ _ _ _ _ _ MF.o cJ.o mA F2.o (aN.moves.mv ⟨TcY,fun k hk ho=>⟨ho,QW.o k Tdh⟩⟩ Vn.o)
 go_simp;have hb2:Below w.heap.size w (w.drew.alloc (.cells Tai 57)):=((bj _ _).drew).alloc (bk _) _;refine hK.o _ _ (HS.o _ hb2) ?_;clear hK K hHeld;have hHeld:=HS.o _ hb2;refine lR 5 fun K hK=>?_;go_simp;refine(HC.o _ hb2).mono ?_;rintro e w1 ⟨tp,tc,sp,sc,kk,rfl,OU,hv1,hb1⟩;have MF:=aa OU;clear OU;have hb1':Below w.heap.size w w1:=hb2.trans (hb1.mono hb2.size);refine hK.o _ _ (HS.o _ hb1') ?_;clear hK K hHeld;have hHeld:=HS.o _ hb1';have gh:=(hb1.block _ TcO).trans (b9 w.drew (.cells Tai 57));have hv2:=hv1;have mA:w.heap.size<=w.heap.size:=bk _;have gh:w1.heap[w.heap.size]?=some (.cells Tai 57 (0,0)):=gh;clear hb2;have hb2:=hb1';clear hv1 hb1 hb1';generalize w1=W2 at *;refine cH hQ 6 hHeld ?_;refine cH hQ 7 hHeld ?_;refine cH hQ 8 hHeld ?_;have Vn:=aa hv2;clear hv2;obtain⟨zf,z0,z1,z2,z3,z4,z5⟩:=BO gh;obtain⟨sb,sk,so⟩:=zQ gh (.string x.name) (.int .u64 x.id) (.bool x.hidden) (.bool x.ro) (.slice tp x.tags.length tc) (.slice sp x.Gf.length sc) _ rfl;have cJ:=aa (sb _ _ mA hb2);have F2:=aa sk;have QW:=aa so;clear sb sk so gh;refine lR 10 fun K hK=>?_;go_simp;refine hK.o _ _ (HS.o _ cJ.o) ?_;clear hK K;refine lR 11 fun K hK=>?_;go_simp;refine hK.o _ _ (HS.o _ cJ.o) ?_;clear hK K;refine aP TcP rfl ?_;simp only[cQ,km,cL];exact HK.o _ _ _ _ kk w.heap.size _ _ _ _ _ _ _ _ _ _ MF.o cJ.o mA F2.o (aN.moves.mv ⟨TcY,fun k hk ho=>⟨ho,QW.o k Tdh⟩⟩ Vn.o)):p:=h
theorem Hw{ok:Nat->Prop}(Q:Exit->Act->World->Prop){c0 c4 c10:Value}(w:World)(g:af)(a:bN)(Bg b3 off3 k nn ac:Nat)(nm:ByteArray)(hgb:w.heap[Bg]?=some (.cells (Tad g a) 32 (0,0)))(Vk:k<nn)(hb3:b3<w.heap.size)(hn:w.cell? (b3,off3+k)=some (.string nm))
  (hg:dN ok w g a) (TW:g.F9.length<=1000000) (x:ay) (Tz:Bool) (Yh:(aM g.F9 nm).getD eY=x) (N3:(aM g.F9 nm).isSome=Tz)
  (HK:Hid (∀(tp:Option Addr) (tc:Nat) (sp:Option Addr) (sc:Nat) (kk:Int) (b:Nat) (W':World) (u27 u28 u29 u30 u31 u32 u33 u34 u35:Value),decide (kk<0)=!Tz->Below w.heap.size w W'->w.heap.size<=b->W'.heap[b]?=some (.cells (Taf x tp tc sp sc) 57 (0,0))->aN (fun k=>ok k/\k<w.heap.size) W' [.string x.name,.int .u64 x.id,.bool x.hidden,.bool x.ro,.slice tp x.tags.length tc,.slice sp x.Gf.length sc] x->Q .normal ⟨#[c0,c1,.pointer (some Bg),c3,c4,c5,c6,.slice (some (b3,off3)) nn ac,.int .i64 (k:Int),.pointer (some b),.int .i64 kk,c11,c12,c13,c14,c15,c16,c17,c18,c19,c20,c21,c22,c23,c24,c25,c26,u27,u28,u29,u30,u31,u32,u33,u34,u35,c36,c37,c38,c39,c40,c41,c42,c43,c44,c45,c46,c47,c48,c49,c50,c51,c52,c53,c54,c55,c56,c57,c58,c59,c60],[]⟩ W'))
  (hQ:∀c (a:Act) (d:Tmp) (v:Value) w,Q (.panic c) (a.put (some d) v) w->Q (.panic c) a w) :
  (Ai Tryz.f105 6).wp prog Q ⟨#[c0,c1,.pointer (some Bg),c3,c4,c5,c6,.slice (some (b3,off3)) nn ac,.int .i64 (k:Int),c9,c10,c11,c12,c13,c14,c15,c16,c17,c18,c19,c20,c21,c22,c23,c24,c25,c26,c27,c28,c29,c30,c31,c32,c33,c34,c35,c36,c37,c38,c39,c40,c41,c42,c43,c44,c45,c46,c47,c48,c49,c50,c51,c52,c53,c54,c55,c56,c57,c58,c59,c60],[]⟩ w:=by
 exact TaO
theorem DC{ok:Nat->Prop}(Q:Exit->Act->World->Prop){c0 c4 c7 c8 c10 c82 c83 c84 c85 c86 c87 c88 c89 c90 c91 c92 c93 c94 c95 c96 c97 c98 c99 c100 c101 c102 c103 c104 c105 c106 c107 c108:Value}(w:World)(g:af)(a:bN)(Bg b3 off3 k nn ac:Nat)(nm:ByteArray)(hgb:w.heap[Bg]?=some (.cells (Tad g a) 32 (0,0)))(Vk:k<nn)(hb3:b3<w.heap.size)(hn:w.cell? (b3,off3+k)=some (.string nm))
  (hg:dN ok w g a) (TW:g.F9.length<=1000000) (x:ay) (Tz:Bool) (Yh:(aM g.F9 nm).getD eY=x) (N3:(aM g.F9 nm).isSome=Tz)
  (HK:Hid (∀(tp:Option Addr) (tc:Nat) (sp:Option Addr) (sc:Nat) (kk:Int) (b:Nat) (W':World) (u34 u35 u36 u37 u38 u39 u40 u41 u42:Value),decide (kk<0)=!Tz->Below w.heap.size w W'->w.heap.size<=b->W'.heap[b]?=some (.cells (Taf x tp tc sp sc) 57 (0,0))->aN (fun k=>ok k/\k<w.heap.size) W' [.string x.name,.int .u64 x.id,.bool x.hidden,.bool x.ro,.slice tp x.tags.length tc,.slice sp x.Gf.length sc] x->Q .normal ⟨#[c0,c1,.pointer (some Bg),c3,c4,.slice (some (b3,off3)) nn ac,c6,c7,c8,.int .i64 (k:Int),.pointer (some b),.int .i64 kk,c12,c13,c14,c15,c16,c17,c18,c19,c20,c21,c22,c23,c24,c25,c26,c27,c28,c29,c30,c31,c32,c33,u34,u35,u36,u37,u38,u39,u40,u41,u42,c43,c44,c45,c46,c47,c48,c49,c50,c51,c52,c53,c54,c55,c56,c57,c58,c59,c60,c61,c62,c63,c64,c65,c66,c67,c68,c69,c70,c71,c72,c73,c74,c75,c76,c77,c78,c79,c80,c81,c82,c83,c84,c85,c86,c87,c88,c89,c90,c91,c92,c93,c94,c95,c96,c97,c98,c99,c100,c101,c102,c103,c104,c105,c106,c107,c108],[]⟩ W'))
  (hQ:∀c (a:Act) (d:Tmp) (v:Value) w,Q (.panic c) (a.put (some d) v) w->Q (.panic c) a w) :
  (Ai Tryz.f65 10).wp prog Q ⟨#[c0,c1,.pointer (some Bg),c3,c4,.slice (some (b3,off3)) nn ac,c6,c7,c8,.int .i64 (k:Int),c10,c11,c12,c13,c14,c15,c16,c17,c18,c19,c20,c21,c22,c23,c24,c25,c26,c27,c28,c29,c30,c31,c32,c33,c34,c35,c36,c37,c38,c39,c40,c41,c42,c43,c44,c45,c46,c47,c48,c49,c50,c51,c52,c53,c54,c55,c56,c57,c58,c59,c60,c61,c62,c63,c64,c65,c66,c67,c68,c69,c70,c71,c72,c73,c74,c75,c76,c77,c78,c79,c80,c81,c82,c83,c84,c85,c86,c87,c88,c89,c90,c91,c92,c93,c94,c95,c96,c97,c98,c99,c100,c101,c102,c103,c104,c105,c106,c107,c108],[]⟩ w:=by
 exact TaO
theorem uW{ok:Nat->Prop}(Q:Exit->Act->World->Prop){c0 c2 c4 c10:Value}(w:World)(g:af)(a:bN)(Bg b3 off3 k nn ac:Nat)(nm:ByteArray)(hgb:w.heap[Bg]?=some (.cells (Tad g a) 32 (0,0)))(Vk:k<nn)(hb3:b3<w.heap.size)(hn:w.cell? (b3,off3+k)=some (.string nm))
  (hg:dN ok w g a) (TW:g.Gb.length<=1000000) (x:az) (Tz:Bool) (Yh:(bH g.Gb nm).getD gT=x) (N3:(bH g.Gb nm).isSome=Tz)
  (HK:Hid (∀(tp:Option Addr) (tc:Nat) (kk:Int) (b:Nat) (W':World) (u58 u59 u60 u61 u62 u63 u64 u65 u66:Value),decide (kk<0)=!Tz->Below w.heap.size w W'->w.heap.size<=b->W'.heap[b]?=some (.cells (Tah x tp tc) 39 (0,0))->aO (fun k=>ok k/\k<w.heap.size) W' [.string x.name,.int .u64 x.id,.int .i64 x.first,.int .i64 x.Gc,.bool x.closed,.bool x.missing,.slice tp x.tags.length tc] x->Q .normal ⟨#[c0,c1,c2,.pointer (some Bg),c4,c5,c6,.slice (some (b3,off3)) nn ac,.int .i64 (k:Int),.pointer (some b),.int .i64 kk,c11,c12,c13,c14,c15,c16,c17,c18,c19,c20,c21,c22,c23,c24,c25,c26,c27,c28,c29,c30,c31,c32,c33,c34,c35,c36,c37,c38,c39,c40,c41,c42,c43,c44,c45,c46,c47,c48,c49,c50,c51,c52,c53,c54,c55,c56,c57,u58,u59,u60,u61,u62,u63,u64,u65,u66,c67,c68,c69,c70,c71,c72,c73,c74,c75,c76,c77,c78,c79,c80,c81],[]⟩ W'))
  (hQ:∀c (a:Act) (d:Tmp) (v:Value) w,Q (.panic c) (a.put (some d) v) w->Q (.panic c) a w) :
  (Ai Tryz.f40 11).wp prog Q ⟨#[c0,c1,c2,.pointer (some Bg),c4,c5,c6,.slice (some (b3,off3)) nn ac,.int .i64 (k:Int),c9,c10,c11,c12,c13,c14,c15,c16,c17,c18,c19,c20,c21,c22,c23,c24,c25,c26,c27,c28,c29,c30,c31,c32,c33,c34,c35,c36,c37,c38,c39,c40,c41,c42,c43,c44,c45,c46,c47,c48,c49,c50,c51,c52,c53,c54,c55,c56,c57,c58,c59,c60,c61,c62,c63,c64,c65,c66,c67,c68,c69,c70,c71,c72,c73,c74,c75,c76,c77,c78,c79,c80,c81],[]⟩ w:=by
 conv=>arg 2;whnf
 have vh:=aq hgb;have hS:∀w':World,Below w.heap.size w w'->(w'.cell? (b3,off3+k)=some (.string nm)/\w'.cell? Bg=some (.string g.name)/\w'.cell? (Tac Bg 1)=some (.int .u64 g.id)/\w'.cell? (Tac Bg 2)=some (.int .i64 g.seq)/\w'.cell? (Tac Bg 3)=some (.int .i64 g.Gd)/\w'.cell? (Tac Bg 4)=some (.int .i64 g.next)/\w'.cell? (Tac Bg 5)=some (.slice a.tp g.tags.length a.tc)/\w'.cell? (Tac Bg 6)=some (.slice a.dp g.Gb.length a.dc)/\w'.cell? (Tac Bg 7)=some (.slice a.vp g.F9.length a.vc)/\w'.cell? (Tac Bg 8)=some (.slice a.hp g.history.length a.hc)):=fun w' e=>by
  exact TcA
 have HS:=aa hS;clear hS;have Rj:Hid (∀W:World,Below w.heap.size w W->dN (fun k=>ok k/\k<w.heap.size) W g a):=aa fun W hb=>hg.mv ⟨hb.size,fun k hk ho=>⟨⟨ho,hk⟩,hb.block k hk⟩⟩
 have hC:∀W:World,Below w.heap.size w W->Calls prog 66 #[.agg (Tad g a),.string nm] W fun e w'=>∃(tp:Option Addr) (tc:Nat) (kk:Int),e=.returned (.tuple #[.agg (Tah x tp tc),.int .i64 kk])/\decide (kk<0)=!Tz/\aO (fun k=>ok k/\k<w.heap.size) w' [.string x.name,.int .u64 x.id,.int .i64 x.first,.int .i64 x.Gc,.bool x.closed,.bool x.missing,.slice tp x.tags.length tc] x/\Below W.heap.size W w':=fun W hb=>by
  exact Tcz
 have HC:=aa hC;clear hC Yh N3 hg hgb hn TW Rj;refine aZ (fun w'=>w'.cell? (b3,off3+k)=some (.string nm)/\w'.cell? Bg=some (.string g.name)/\w'.cell? (Tac Bg 1)=some (.int .u64 g.id)/\w'.cell? (Tac Bg 2)=some (.int .i64 g.seq)/\w'.cell? (Tac Bg 3)=some (.int .i64 g.Gd)/\w'.cell? (Tac Bg 4)=some (.int .i64 g.next)/\w'.cell? (Tac Bg 5)=some (.slice a.tp g.tags.length a.tc)/\w'.cell? (Tac Bg 6)=some (.slice a.dp g.Gb.length a.dc)/\w'.cell? (Tac Bg 7)=some (.slice a.vp g.F9.length a.vc)/\w'.cell? (Tac Bg 8)=some (.slice a.hp g.history.length a.hc)) 12 [] TcP (HS.o _ (bj _ _).drew) (fun hHeld=>?_);refine cH hQ 0 hHeld ?_;refine cH hQ 1 hHeld ?_;refine cH hQ 2 hHeld ?_;refine cH hQ 3 hHeld ?_;refine cH hQ 4 hHeld ?_;refine mh (i:=5) (j:=9) rfl rfl rfl rfl TcP (fun K hK=>?_) (fun K hK=>?_)
 ·go_simp;refine(HC.o _ (bj _ _).drew).mono ?_;rintro e w1 ⟨tp,tc,kk,rfl,OU,hv1,hb1⟩;have MF:=aa OU;clear OU;have hb1':Below w.heap.size w w1:=⟨hb1.os,hb1.tape,hb1.output,hb1.size,hb1.block⟩;refine hK.o _ _ (HS.o _ hb1') ?_;clear hK K hHeld;have hHeld:=HS.o _ hb1';have Zx:=aa hv1;clear hv1 hb1;have cU:=aa hb1';clear hb1';refine cH hQ 6 hHeld ?_;refine cH hQ 7 hHeld ?_;refine cH hQ 8 hHeld ?_;refine lR 9 fun K hK=>?_;go_simp;have hb2:Below w.heap.size w (w1.alloc (.cells Tak 39)):=cU.o.alloc cU.o.size _;refine hK.o _ _ (HS.o _ hb2) ?_;clear hK K hHeld;have gh:=b9 w1 (.cells Tak 39);have mA:=cU.o.size;have hv2:aO (fun k=>ok k/\k<w.heap.size) (w1.alloc (.cells Tak 39)) [.string x.name,.int .u64 x.id,.int .i64 x.first,.int .i64 x.Gc,.bool x.closed,.bool x.missing,.slice tp x.tags.length tc] x:=aO.moves.mv ⟨TcO,fun k hk ho=>⟨ho,cj _ _ _ hk⟩⟩ Zx.o;generalize hW2:World.alloc w1 _=W2 at *;generalize hb0:w1.heap.size=b0 at *;clear hW2 hb0 Zx cU;have Vn:=aa hv2;clear hv2;obtain⟨zf,z0,z1,z2,z3,z4,z5,z6⟩:=Gq gh;obtain⟨sb,sk,so⟩:=CR gh (.string x.name) (.int .u64 x.id) (.int .i64 x.first) (.int .i64 x.Gc) (.bool x.closed) (.bool x.missing) (.slice tp x.tags.length tc) _ rfl;have cJ:=aa (sb _ _ mA hb2);have F2:=aa sk;have QW:=aa so;clear sb sk so gh;refine lR 10 fun K hK=>?_;go_simp;refine hK.o _ _ (HS.o _ cJ.o) ?_;clear hK K;refine lR 11 fun K hK=>?_;go_simp;refine hK.o _ _ (HS.o _ cJ.o) ?_;clear hK K;refine aP TcP rfl ?_;simp only[cQ,km,cL];exact HK.o _ _ kk b0 _ _ _ _ _ _ _ _ _ _ MF.o cJ.o mA F2.o (aO.moves.mv ⟨TcY,fun k hk ho=>⟨ho,QW.o k Tdh⟩⟩ Vn.o)
 go_simp;have hb2:Below w.heap.size w (w.drew.alloc (.cells Tak 39)):=((bj _ _).drew).alloc (bk _) _;refine hK.o _ _ (HS.o _ hb2) ?_;clear hK K hHeld;have hHeld:=HS.o _ hb2;refine lR 5 fun K hK=>?_;go_simp;refine(HC.o _ hb2).mono ?_;rintro e w1 ⟨tp,tc,kk,rfl,OU,hv1,hb1⟩;have MF:=aa OU;clear OU;have hb1':Below w.heap.size w w1:=hb2.trans (hb1.mono hb2.size);refine hK.o _ _ (HS.o _ hb1') ?_;clear hK K hHeld;have hHeld:=HS.o _ hb1';have gh:=(hb1.block _ TcO).trans (b9 w.drew (.cells Tak 39));have hv2:=hv1;have mA:w.heap.size<=w.heap.size:=bk _;have gh:w1.heap[w.heap.size]?=some (.cells Tak 39 (0,0)):=gh;clear hb2;have hb2:=hb1';clear hv1 hb1 hb1';generalize w1=W2 at *;refine cH hQ 6 hHeld ?_;refine cH hQ 7 hHeld ?_;refine cH hQ 8 hHeld ?_;have Vn:=aa hv2;clear hv2;obtain⟨zf,z0,z1,z2,z3,z4,z5,z6⟩:=Gq gh;obtain⟨sb,sk,so⟩:=CR gh (.string x.name) (.int .u64 x.id) (.int .i64 x.first) (.int .i64 x.Gc) (.bool x.closed) (.bool x.missing) (.slice tp x.tags.length tc) _ rfl;have cJ:=aa (sb _ _ mA hb2);have F2:=aa sk;have QW:=aa so;clear sb sk so gh;refine lR 10 fun K hK=>?_;go_simp;refine hK.o _ _ (HS.o _ cJ.o) ?_;clear hK K;refine lR 11 fun K hK=>?_;go_simp;refine hK.o _ _ (HS.o _ cJ.o) ?_;clear hK K;refine aP TcP rfl ?_;simp only[cQ,km,cL];exact HK.o _ _ kk w.heap.size _ _ _ _ _ _ _ _ _ _ MF.o cJ.o mA F2.o (aO.moves.mv ⟨TcY,fun k hk ho=>⟨ho,QW.o k Tdh⟩⟩ Vn.o)
theorem dF.ownS{w:World}{B:Nat}{v:Value}(h:dF w B v l):bF aF 1 9 B (fun _=>False) w v l:=by
 refine⟨_,h,?_⟩;clear h;induction l with
 |nil=>rfl
 |cons x l ih=>exact⟨[.string x],_,rfl,rfl,rfl,fun z hz=>(by obtain rfl:=List.mem_singleton.1 hz;rfl),ih⟩
def Mh(g:af)(nm:ByteArray)(w:World)(e:Ending)(w':World):Prop:=∃v l,e=.returned v/\dF w' w.heap.size v (gD ay.name (bI l) g.F9)/\(∀x,x∈l↔RR g.F9 (gW g.F9 nm) x)/\Below w.heap.size w w'
theorem wX(hu:uw g)(nm:ByteArray):(gW g.F9 nm).length<=1000:=by rw[uy];exact I1 hu nm
theorem Ls{x y:ByteArray}(h:x∈gW g.F9 y):x∈g.F9.flatMap kY:=by
 unfold gW at h;cases hf:aM g.F9 y with
 |none=>rw[hf]at h;cases h
 |some v=>rw[hf]at h;exact List.mem_flatMap.2 ⟨v,eV hf,h⟩
theorem Ld(hu:uw g)(hv:g.F9.length<=100):(g.F9.flatMap kY).length<=100000:=by
 have:=lY kY 1000 g.F9 hu.ul;omega
theorem F4{ok:Nat->Prop}(g:af)(a:bN)(nm:ByteArray)(w:World)(hr:dN ok w g a)(hu:uw g)(mb:g.F9.length<=100) :
  Calls prog 105 #[.agg (Tad g a),.string nm] w (Mh g nm w):=by
 have HG:=aa hr;clear hr;have HU:=aa hu;clear hu;have HUL:=aa (Ld HU.o mb);have cU:=aa (ae w (.cells (Tad g a) 32));have Mj:=aa (b9 w (.cells (Tad g a) 32));go_enter func105,ntmps105
 go_upto_region 1 with(fail);generalize World.alloc w _=W1 at *;generalize Ms:w.heap.size=Bg at Mj ⊢;clear Ms;have gL:=mi Mj.o;obtain⟨g0,g1,g2,g3,g4,g5,g6,g7,g8⟩:=xr gL;clear gL;go_wp2_with fail;clear g0 g1 g2 g3 g4 g5 g6 g7 g8;refine(aj7 (ok:=ok) g a nm W1 ((HG.o.mv (Mv.of cU.o)).F9) TcN).mono ?_;rintro e w2 ⟨u,kk,rfl,hv,-,hb2⟩;have HS:=aa (Dt HU.o.sz nm);have HN:Hid (kY ((aM g.F9 nm).getD eY)=gW g.F9 nm):=aa rfl;have Ns:=aa (wX HU.o nm);generalize (aM g.F9 nm).getD eY=x at *;have HV:=aa hv;obtain⟨tv,sv,rfl,ew,fL⟩:=hv;obtain⟨tp,tc,rfl,_,_⟩:=ew.cap;obtain⟨sp,sc,rfl,_,_⟩:=fL.cap;clear ew fL;have ae4:=Zbk hb2 Mj;have cm:=Zbl cU hb2;have pC:=ae w2 (.cells (Taf x tp tc sp sc) 57);have HBB:=aa pC;have aE5:=Zbk pC ae4;have F2:=aa (b9 w2 (.cells (Taf x tp tc sp sc) 57));clear hb2 pC Mj ae4;go_upto_region 2 with(fail);generalize World.alloc w2 _=W3 at *;generalize Yx:w2.heap.size=Bx at F2 ⊢;have xL:=mi F2.o;obtain⟨x0,x1,x2,x3,x4,x5⟩:=sv6 xL;clear xL;go_wp2_with fail;clear x0 x1 x2 x3 x4 x5;refine(kZ x _ W3 (aN.moves.mv (Mv.of HBB.o) HV.o) HS.o (by rw[HN.o];have:=Ns.o;omega)).mono ?_;rintro e w4 ⟨lv,rfl,how,hb4⟩;have cJ:=Zbl cm HBB.o;have HO:=aa how.ownS;have eI:=aa hb4;rw[HN.o]at HO;clear how hb4 F2 Yx HV HS HN HBB cm;have hbg:=aq aE5.o;have Pp:Hid (uj g.F9 (gW g.F9 nm) (gW g.F9 nm) 0):=aa uj.start;have HC0:Hid (BG (g.F9.flatMap kY) (gW g.F9 nm)<=100000):=aa (cA (Ae _ _) HUL.o);generalize hl0:gW g.F9 nm=l0 at *;have QX:=aa hl0;clear hl0;go_upto_region 4 with(fail);go_loopg [7,8] (2*BG (g.F9.flatMap kY) l0+l0.length) (fun gk lv i wr=>∃(l:List ByteArray) (n:Nat),i=.int .i64 n/\bF aF 1 9 W3.heap.size (fun _=>False) wr lv l/\uj g.F9 l0 l n/\n<=l.length/\l.length+BG (g.F9.flatMap kY) l<=101000/\2*BG (g.F9.flatMap kY) l+(l.length-n)<=gk/\Below W3.heap.size W3 wr)
 exact⟨l0,0,rfl,HO.o,Pp.o,cg _,by have:=HC0.o;have:=Ns.o;omega,TcN,eI.o⟩;clear HO eI Pp HC0 Ns;obtain⟨l,n,rfl,ho,YD,zr,hlc,Xw,hB⟩:=hrel;have HO:=aa ho;clear ho;have Pp:=aa YD;clear YD;have HLC:=aa hlc;clear hlc;have HMS:=aa Xw;clear Xw;have HB:=aa hB;clear hB;have kf:b6 aF 1 (fun _=>True) wr [_] l:=bF.rd aF.moves HO.o TcQ (fun _ _ h=>h.elim) (fun _ _=>trivial);obtain⟨lp,lc,rfl,_,_⟩:=kf.cap;have B2:=aa kf;clear kf;have mA:=HB.o.size;have Mj:=aa ((HB.o.block _ hbg).trans aE5.o);have fy:=Zbl cJ HB.o;have MI:=aa (HG.o.mv (Mv.of fy.o));by_cases hlt:n<l.length
 ·obtain⟨y,hy⟩:=aj l n hlt;have HY:=aa hy;obtain⟨b,off,us,rfl,gR,cX,ez,eE,hcv⟩:=B2.o.elem hy;obtain rfl:us=_:=eE;have q0:=hcv 0 _ rfl;rw[fp,fg]at q0;clear hy hcv ez;go_upto_region 6 with(fail);refine Hw (ok:=ok) _ wr g a Bg b off n l.length lc y Mj.o hlt cX q0 MI.o TcN _ _ rfl rfl (aa ?_) (fun _ _ _ _ _ h=>h);intro xtp xtc xsp xsc kk Bx W5 u27 u28 u29 u30 u31 u32 u33 u34 u35 _ hb5 PX qu I2;have HS:=aa (Dt HU.o.sz y);have HN:Hid (kY ((aM g.F9 y).getD eY)=gW g.F9 y):=aa rfl;have hml:=wX HU.o y;generalize (aM g.F9 y).getD eY=x at *;have HO5:=aa (bF.Gl aF.moves HO.o hb5.size fun b hb=>hb5.block b (bF.ge HO.o hb).2);have eK:=aa (HB.o.trans (hb5.mono mA));have xL:=mi qu;obtain⟨x0,x1,x2,x3,x4,x5⟩:=sv6 xL;clear xL q0 HO HB B2 gR;have OW:=aa I2;clear I2;have WJ:=eK.o.size;go_upto_region 7 with(fail);go_wp2_with fail;clear x0 x1 x2 x3 x4 x5 qu;refine(kZ x _ W5 OW.o HS.o (by rw[HN.o];omega)).mono ?_;rintro e w6 ⟨mv,rfl,Tc,hb6⟩;have HO6:=aa (bF.Gl aF.moves HO5.o hb6.size fun b hb=>hb6.block b (bF.ge HO5.o hb).2);have Tq:=aa (eK.o.trans (hb6.mono WJ));rw[HN.o]at Tc;have QK:∀b,mv.ownBlock=some b->W5.heap.size<=b/\b<w6.heap.size:=fun b e=>fh Tc b e
  have YH:Hid (∀q,mv.ownBlock=some q->(Value.slice (some (b,off)) l.length lc).ownBlock≠some q):=aa fun q e e2=>by
   have h1:=(bF.ge HO5.o e2).2;have h2:=(QK q e).1;omega
  have hmr:b6 aF 1 (fun b=>mv.ownBlock=some b) w6 [mv] (gW g.F9 y):=Tc.rd (fun _ e=>e);obtain⟨mp,mc,rfl,_,_⟩:=hmr.cap;have HMR:=aa hmr;clear hmr Tc QK hb6 OW HS HN HO5 eK hb5;have F2:Hid (qj g.F9 l0 l n y 0):=aa (Pp.o.open HY.o);have Rn:l.length<=101000:=by have:=HLC.o;omega
  have hz6:=Tq.o.size;go_upto_region 9 with(fail);go_loopg [7,12] ((gW g.F9 y).length) (fun gk lv i wi=>∃(l2:List ByteArray) (k:Nat),i=.int .i64 k/\bF aF 1 9 W3.heap.size (fun _=>False) wi lv l2/\qj g.F9 l0 l2 n y k/\k<=(gW g.F9 y).length/\l2.length+BG (g.F9.flatMap kY) l2<=101000/\2*BG (g.F9.flatMap kY) l2+l2.length<=2*BG (g.F9.flatMap kY) l+l.length/\l.length<=l2.length/\(gW g.F9 y).length-k<=gk/\Below W3.heap.size W3 wi/\w6.heap.size<=wi.heap.size/\(∀b,(Value.slice mp (gW g.F9 y).length mc).ownBlock=some b->wi.heap[b]?=w6.heap[b]?/\lv.ownBlock≠some b))
  exact⟨l,0,rfl,HO6.o,F2.o,cg _,HLC.o,bk _,bk _,TcN,Tq.o,bk _,fun q e=>⟨rfl,YH.o q e⟩⟩;clear HO6 F2 YH Tq;obtain⟨l2,k,rfl,ho,cT,hk,hlc2,aG7,aI4,hgk,hB2,hsz2,hap⟩:=hrel;have HO:=aa ho;clear ho;have F2:=aa cT;clear cT;have cm:=aa hB2;clear hB2;have YH:=aa hap;clear hap;have TQ:=aa hlc2;clear hlc2;have QY:=aa aG7;clear aG7;have aF2:b6 aF 1 (fun _=>True) wr [_] l2:=bF.rd aF.moves HO.o TcQ (fun _ _ h=>h.elim) (fun _ _=>trivial);obtain⟨lp2,lc2,rfl,_,_⟩:=aF2.cap;have hl2:l2.length<=101000:=by have:=TQ.o;omega
  by_cases hlt2:k<(gW g.F9 y).length
  ·obtain⟨z,hz⟩:=aj _ k hlt2;obtain⟨b3,off3,us3,rfl,B7,PV,pT,Tr,hcv3⟩:=HMR.o.elem hz;obtain rfl:us3=_:=Tr;have q0:wr.cell? (b3,off3+k)=some (.string z):=by
    rw[<- hcv3 0 _ rfl,fp,fg];simp only[World.cell?,(YH.o b3 B7).1]
   have HZ:=aa hz;have HW:=aa (jb l2 _ z wr aF2 TcN);clear hz hcv3 pT aF2;cases hh:bI l2 z with
   |true =>
    rw[hh]at HW;have RG:=aa (F2.o.skip HZ.o hh);clear hh;go_wp2_with(refine HW.o.mono ?_;rintro e w7 ⟨rfl,rfl⟩)
    go_roundg ((gW g.F9 y).length-(k+1))
    case measure=>omega
    exact⟨l2,k+1,TcR,HO.o,RG.o,TcN,TQ.o,QY.o,aI4,bk _,cm.o,hsz2,YH.o⟩
   |false =>
    rw[hh]at HW;have Pr:=aa (F2.o.more HZ.o);have HCM:=aa (Bn (g.F9.flatMap kY) l2 z (Ls (ct HZ.o)) (lX.1 hh));clear hh;obtain⟨i0,hi,hz0,hz1,hz2⟩:=gg o5;have HI:=aa hi;clear hi;have H0:=aa hz0;clear hz0;have H1:=aa hz1;clear hz1;have H2:=aa hz2;clear hz2;have pL:=aa (ae wr (.cells #[.string z] 9));have HOA:=aa (bF.Gl aF.moves HO.o pL.o.size fun b hb=>pL.o.block b (bF.ge HO.o hb).2);have aj8:=cm.o.size;go_wp2_with(first|(refine HW.o.mono ?_;rintro e w7 ⟨rfl,rfl⟩)|(at_builtin;refine dX aF.moves underlying27 HI.o H0.o H1.o H2.o rfl TcQ TcQ rfl _ _ rfl W3.heap.size (fun _=>False) _ l2 z rfl HOA.o wr.heap.size 1 [.string z] rfl ?d1 ?d2 ?d3 ?d4 ?d5 ?d6 ?d7 ?_))
    case d1=>rfl
    case d2=>rfl
    case d3=>intro v hv;obtain rfl:=List.mem_singleton.1 hv;rfl
    case d4=>intro j v hv;exact aD rfl (by simpa using hv)
    case d5=>omega
    case d6=>rw[cW];omega
    case d7=>intro b _ h;exact h
    intro gb cap w8 hp;have jn:Below W3.heap.size wr w8:=(pL.o.mono TcN).grown hp.grown (by rw[cW];omega) (fun j e=>(bF.ge HOA.o e).1);have Ix:=aa (cm.o.trans jn);have hz8:w6.heap.size<=w8.heap.size:=cA hsz2 jn.size;have aI5:Hid (∀b,(Value.slice (some (b3,off3)) (gW g.F9 y).length mc).ownBlock=some b->w8.heap[b]?=w6.heap[b]?/\(Value.slice (some gb) (l2.length+1) cap).ownBlock≠some b):=aa fun b e=>by
     obtain⟨h1,h2⟩:=YH.o b e;obtain rfl:b=b3:=gj (e.symm.trans B7);refine⟨((hp.grown.block b (by rw[cW];omega) (fun q=>h2 q.symm)).trans (pL.o.block b TcN)).trans h1,fun e2=>?_⟩;have e3:gb=b:=by injection e2
     rcases hp.at' with q|q
     ·exact h2 (by rw[q,e3])
     rw[cW]at q;omega
    have HO8:=aa hp.own;clear hp jn pL HOA;go_wp2;go_roundg ((gW g.F9 y).length-(k+1))
    case measure=>omega
    exact⟨l2++[z],k+1,TcR,HO8.o,Pr.o,TcN,by have:=HCM.o;have:=TQ.o;rw[cD,A4];omega,by have:=HCM.o;have:=QY.o;rw[cD,A4];omega,by rw[cD];omega,bk _,Ix.o,hz8,aI5.o⟩
  obtain rfl:k=(gW g.F9 y).length:=by omega
  have HSH:=aa F2.o.shut;go_wp2;go_roundg (2*BG (g.F9.flatMap kY) l2+(l2.length-(n+1)))
  case measure=>have:=QY.o;have:=HMS.o;omega
  exact⟨l2,n+1,TcR,HO.o,HSH.o,TcN,TQ.o,bk _,cm.o⟩
 obtain rfl:n=l.length:=by omega
 have gL:=mi Mj.o;obtain⟨g0,g1,g2,g3,g4,g5,g6,g7,g8⟩:=xr gL;clear gL;go_wp2_with fail;clear g0 g1 g2 g3 g4 g5 g6 g7 g8;refine(xY (ok:=ok) (ok':=fun _=>True) g a l _ wr MI.o.F9 TcN B2.o (by have:=HLC.o;omega)).mono ?_;rintro e w7 ⟨ov,rfl,hoo,hb7⟩;have TF:=Zbl fy hb7;have HOZ:=aa (hoo.mono (B':=w.heap.size) fy.o.size);have HFI:Hid (∀x,x∈l↔RR g.F9 l0 x):=aa (Pp.o.done (bk _));clear hoo hb7;go_wp2;go_ret;exact⟨_,l,rfl,HOZ.o,by rw[QX.o];exact HFI.o,TF.o⟩
end Go.Proofs.YtillcmhjhajimaaGreatDoor
