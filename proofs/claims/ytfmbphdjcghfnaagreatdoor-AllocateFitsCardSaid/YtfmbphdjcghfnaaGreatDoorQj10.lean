/- Lemmas: FtA, FtB, FtR, AlcQ, AlcR, AlcS, AlcT, NdA, NdB, NdE, NdC, NdD, RpE, RpF. -/
import Derived.Test.YtfmbphdjcghfnaaGreatDoorQj09
set_option maxRecDepth 100000
set_option maxHeartbeats 32000000
set_option linter.all false
open List renaming length→Wq,nil_sublist→MY,pairwise_append→GB,mem_map→As,getElem?_eq_some_iff→AT,mem_cons→DQ,pairwise_cons→IN,pairwise_singleton→L7,mem_singleton→AM,mem_flatMap→BY,map_singleton→Lo,mem_append→AS,any_eq_false→IS,singleton_inj→IF,nil_append→GO,pairwise_iff_getElem→It,cons_append→IT,any_eq_true→GP
open Option renaming isSome_iff_exists→Ly
open Go.World renaming alloc→AI,frozen?→BT,setCell→AF,cell?→AN
open Go.Value renaming int→Bm,string→By,slice→FG
open Go.IntKind renaming i64→Sj,u64→U8
open Go.Obj renaming cells→Sx
open Go.Value renaming pointer→SL,bool→Ft,agg→Tk,tuple→Vj
open Go.Ending renaming returned→S6
open Option renaming some→Vv,none→VX
open Bool renaming false→VN,true→VR
open Decidable renaming decide→V7
namespace Go.Proofs.YtfmbphdjcghfnaaGreatDoor
variable{gt:Prop}
open Go.Proofs.Tryz
open Go.RowKit Go.Maps Go.Shelf
variable{W6 w w':H7}{x:ay}{Q:N2}{p px:IH}{c0 c10 c2 c4 c7 c8 cB ch ci cn co cp cw cy db ds e6 e8 e9 ea eb lv mv v:zY}{c cv cx n sz:Nat}{Tz:Bool}
section
variable {l:wy aB}{g:af}{xs:wy RU}{y:Nat × H5}{d:az}{x:RU}{r:aY}{e:Int}{w W:H7}{B:Nat}{t:TypeId}{c1 c2 c3 c5 c9 Sf TO RK RW Rr SO Se St W0 ZD Wg Wr To UP aE ab eS da dj dq fs gE ff fb fa mT me ph qe qk mu mw mx nF pr o4 oE oR oS pe qt qv rl rm sE sa sd yk zd zp bV ca cb ce am an b7 b8 ba be bf bn bo br bt bu bA bB bL cp cw cy cB d8 db ds e6 e8 e9 ea ch ci cn co eb ed ef lE lP gn iS im ka kc ke pt ta tb te tf ti tr tt tw vf vj vm we wg wv yW ZS ao:zY}
def lh(l:wy aB):ay:=⟨Om,9223372036854775808,VN,VN,[],l⟩
def FU(g:af)(v:ay):af:={ g with F9:=g.F9++[v] }
def wE(g:af)(e:Int):Int->wy (Nat × H5)->wy aB
 |_,[]=>[]
 |left,y :: l=>aV (e-left) (min left y.2.2) 1 [arN g y] 0 :: wE g e (left-min left y.2.2) l
def Fits:Int->wy (Nat × H5)->Prop
 |left,[]=>left=0
 |left,y :: l=>1<=left/\1<=y.2.2/\Fits (left-min left y.2.2) l
noncomputable def xO(r:aY)(xs:wy RU):wy (Nat × H5):=if LA r=1 then(uj r.Gc (iU xs)).toList else(rA r.Gc (iU xs)).1
def OX(g:af)(r:aY)(xs:wy RU):(uR g r xs).1=[(xO r xs).map (arN g)]:=by
 unfold uR xO;split<;>rfl
def Fits.pcs:∀(l:wy (Nat × H5)) (e:Int),(∀y∈l,1<=y.2.2)->(rA e l).2<=0->Fits (max e 0) (rA e l).1/\(rA e l).1.Sublist l
 |[],e,_,h=>⟨show max e 0=0 by simp only[rA]at h;omega,List.Sublist.refl _⟩
 |y :: l,e,hl,h=>by
  unfold rA at h ⊢;split at h
  ·rename_i h0;rw[aw h0];exact⟨show max e 0=0 by omega,MY _⟩
  rename_i h0;rw[bh h0];obtain⟨i1,i2⟩:=Fits.pcs l (e-y.2.2) (fun z hz=>hl z (kn _ hz)) h;have h1:=hl y (cG ..);refine⟨⟨WQ,h1,?_⟩,i2.cons_cons _⟩;rw[show max e 0-min (max e 0) y.2.2=max (e-y.2.2) 0 by omega];exact i1
def Fits.len:∀ {l:wy (Nat × H5)} {e:Int},Fits e l->(l.length:Int)<=e/\e<=jU l
 |[],e,h=>by
  obtain rfl:e=0:=h;exact⟨XN,by simp[jU]⟩
 |y :: l,e,h=>by
  have ih:=h.2.2.len;have h1:=h.1;have h2:=h.2.1;simp only[jU,iu,List.sum_cons,cS]at ih ⊢;omega
def OP{L l:wy (Nat × H5)}(h:L.Sublist l):(∀y∈l,1<=y.2.2)->jU L<=jU l:=by
 induction h with
 |slnil=>exact fun _=>Int.le_refl _
 |cons y _ ih =>
  intro q;have:=ih fun z hz=>q z (kn _ hz);have:=q y (cG ..);simp only[jU,iu,List.sum_cons]at *;omega
 |cons_cons y _ ih =>
  intro q;have:=ih fun z hz=>q z (kn _ hz);simp only[jU,iu,List.sum_cons]at *;omega
def MI:∀(i:Nat) (xs:wy RU),(∀x∈xs,ze x<=60)->jU (nU i xs)<=60*xs.length
 |_,[],_=>by simp[nU,jU]
 |i,x :: t,h=>by
  have ih:=MI (i+1) t fun z hz=>h z (kn _ hz);have h1:=h x (cG ..)
  have e:jU (nU i (x :: t))=ze x+jU (nU (i+1) t):=by
   simp[nU,jU,ze,List.map_map,Function.comp_def]
  rw[e,cS];omega
def Lg:∀(i:Nat) (xs:wy RU),(∀x∈xs,NF x)->(nU i xs).Pairwise fun y z=>y.1=z.1->y.2.1+y.2.2<=z.2.1
 |_,[],_=>List.Pairwise.nil
 |i,x :: t,h=>by
  refine GB.2 ⟨List.pairwise_map.2 ((h x (cG ..)).2.imp fun {p q} (hq:p.1+p.2<q.1)=>?_),Lg (i+1) t fun z hz=>h z (kn _ hz),fun y hy z hz e=>?_⟩
  ·exact fun _=>Int.le_of_lt hq
  obtain⟨p,_,rfl⟩:=As.1 hy;obtain⟨k,_,_,e2,_⟩:=zb _ _ _ hz;dsimp only at e;omega
structure vM(g:af)(xs:wy RU)(y:Nat × H5)(d:az)(x:RU):Prop where
 hd:g.Gb[y.1]?=Vv d
 hx:xs[y.1]?=Vv x
 hy:y.2∈x
 nf:NF x
 de:d.Gc<=60
 bx:∀f∈x,0<=f.1/\1<=f.2/\f.1+f.2<=d.Gc
 fr:∀n,y.2.1<=n->n<y.2.1+y.2.2->xy g d n
def vM.b(h:vM g xs y d x):0<=y.2.1/\1<=y.2.2/\y.2.1+y.2.2<=d.Gc:=h.bx _ h.hy
def Pb(hD:∀D∈g.Gb,0<=D.Gc/\D.Gc<=60)(hx:tK g r xs)(hl:xs.length=Wq g.Gb)(hy:y∈iU xs):∃d x,vM g xs y d x:=by
 obtain⟨x,h1,h2⟩:=N7.1 hy;obtain⟨d,hd⟩:=aj g.Gb y.1 (by have:=(AT.1 h1).1;omega);obtain⟨n1,-,-⟩:=hx y.1 d x hd h1;have hf:∀f∈x,∀n,f.1<=n->n<f.1+f.2->xy g d n:=fun f hf n a b=>GG ((n1.2 n).1 ⟨_,hf,a,b⟩);refine⟨d,x,hd,h1,h2,n1.1,(hD d (ct hd)).2,fun f q=>?_,hf _ h2⟩;have h3:=n1.1.1 _ q;have f1:=(hf f q f.1 WQ WQ).1;have f2:=(hf f q (f.1+f.2-1) WQ WQ).1;omega
def vM.nm(h:vM g xs y d x):arN g y=⟨VN,d.name,y.2.1⟩:=by
 unfold arN;rw[List.getD_eq_getElem?_getD,h.hd];rfl
def MF(nm:H6)(st n:Int)(a:aR):(aK nm (aV st n 1 [a] 0)).map af7=[(a.on,a.start,n)]:=rfl
def wW(g:af)(e:Int):∀(l:wy (Nat × H5)) (left:Int),(wE g e left l).length=l.length
 |[],_=>rfl
 |y :: l,left=>fj (·+1) (wW g e l _)
def uy :∀ {l:wy (Nat × H5)} {left:Int},Fits left l->∀s∈wE g e left l,∃y∈l,∃st n,s=aV st n 1 [arN g y] 0/\1<=n/\n<=y.2.2
 |[],_,_,s,hs=>by cases hs
 |y :: l,left,h,s,hs=>by
  rcases DQ.1 hs with rfl|hs
  ·have h1:=h.1;have h2:=h.2.1;exact⟨y,cG ..,_,_,rfl,WQ,WQ⟩
  obtain⟨z,hz,q⟩:=uy h.2.2 s hs;exact⟨z,kn _ hz,q⟩
def LW(g:af)(ext e:Int)(m:Nat):∀ {l:wy (Nat × H5)} {left:Int},Fits left l->(∀y∈l,y.2.2<=1000)->qV ext m (wE g e left l) (e-left)=0
 |[],_,_,_=>rfl
 |y :: l,left,h,hb=>by
  have h1:=h.1;have h2:=h.2.1;have h3:=hb y (cG ..);have ih:=LW g ext e m h.2.2 fun z hz=>hb z (kn _ hz);unfold wE qV;rw[show arN g y=⟨VN,(arN g y).on,(arN g y).start⟩ from lX,ah6 _ _ _ _ _ WQ];rw[bh XN,bh (by rintro⟨_,q⟩;cases q)]
  rw[show e-(left-min left y.2.2)=e-left+min left y.2.2 by omega]at ih;exact ih
def MK(hn:∀(i j:Nat) (D E:az),g.Gb[i]?=Vv D->g.Gb[j]?=Vv E->D.name=E.name->i=j):∀ {l:wy (Nat × H5)} {left:Int},Fits left l->(∀y∈l,∃d x,vM g xs y d x)->l.Pairwise (fun y z=>y.1=z.1->y.2.1+y.2.2<=z.2.1) ->
  ((wE g e left l).flatMap fun s=>(aK Om s).map af7).Pairwise an3
 |[],_,_,_,_=>List.Pairwise.nil
 |y :: l,left,h,ho,hp=>by
  obtain⟨p1,p2⟩:=IN.1 hp;refine GB.2 ⟨?_,MK hn h.2.2 (fun z hz=>ho z (kn _ hz)) p2,fun a ha b hb=>?_⟩
  ·exact L7 ..
  replace ha:a=((arN g y).on,(arN g y).start,min left y.2.2):=AM.1 ha;obtain⟨s,hs,hb⟩:=BY.1 hb;obtain⟨z,hz,st,n,rfl,n1,n2⟩:=uy h.2.2 s hs;rw[MF,AM]at hb;subst ha hb;intro q;obtain⟨d,x,oy⟩:=ho y (cG ..);obtain⟨d',x',oz⟩:=ho z (kn _ hz);rw[oy.nm,oz.nm]at q ⊢;have:=p1 z hz (hn _ _ _ _ oy.hd oz.hd q);left
  dsimp only;omega
def O7(hb:sU g)(hl:1<=l.length/\l.length<=64)(hv:Wq g.F9<32)(hf:qV g.Gd l.length l 0=0)(hp:∀s∈l,af6 s)
  (ho:∀s∈l,∀a∈s.Ga,OnD g s a) (hr:(triples [lh l]).Pairwise an3) (hx:∀p∈triples g.F9,∀q∈triples [lh l],an3 p q):(mchk (FU g (lh l))).2=0:=by
 obtain⟨h0,B,hne,-⟩:=hb.all;obtain⟨r1,r2,r3,-⟩:=Dg h0;have u9:∀u∈g.F9,u∈(FU g (lh l)).F9:=fun u hu=>ju _ hu
 have V:BV (FU g (lh l)):=by
  refine⟨?_,fun v hv=>?_,?_,fun v hv s hs h a ha=>?_,?_,B.ext⟩
  ·show((g.F9++[lh l]).map (·.name)).Nodup;rw[gl];refine GB.2 ⟨B.nd,L7 ..,fun a ha b hb e=>?_⟩;obtain⟨v,hv,rfl⟩:=As.1 ha;rw[Lo,AM]at hb;exact(hne v hv).1 (e.trans hb)
  ·rcases AS.1 hv with q|q
   ·exact(B.vgo v q).mono u9
   obtain rfl:=AM.1 q;exact⟨Yp,ag9,hl,hf,fun s hs=>.plain (hp s hs),fun q=>by cases q⟩
  ·show dA (aA (g.F9++[lh l])) VN=ag5 (g.F9++[lh l]);rw[ag7,ah3,ah8,B.us,af9 (vs:=[lh l]) (fun v hv=>by obtain rfl:=AM.1 hv;exact hp),ah2 (vs:=[lh l]) fun v hv=>by obtain rfl:=AM.1 hv;rfl]
  ·rcases AS.1 hv with q|q
   ·exact B.on v q s hs h a ha
   obtain rfl:=AM.1 q;exact ho s hs a ha
  show(triples (g.F9++[lh l])).Pairwise an3;rw[Pi];exact GB.2 ⟨B.row,hr,hx⟩
 refine V.mchk ?_ r2 (ag0 fun j v hj=>?_)
 ·have h1:qX g=0:=r1;show qX (FU g (lh l))=0;have h2:iR g:=(iT r1).2;have h3:iR (FU g (lh l)):=⟨h2.1,by show(g.F9++[lh l]).length<=32;simp;omega,h2.2.2⟩;unfold qX at h1 ⊢;rw[bh (not_not_intro h2)]at h1;rw[bh (not_not_intro h3)];exact h1
 rw[eJ];by_cases q:j<Wq g.F9
 ·have h1:=ll (i:=0) r3 j v ((Fo q).symm.trans hj);rw[eJ]at h1;unfold yH at h1 ⊢;rw[show(FU g (lh l)).F9.take j=g.F9.take j from List.take_append_of_le_length WQ];exact h1
 have a5:(g.F9++[lh l])[j]?=Vv v:=hj;rw[Cp WQ]at a5;obtain rfl:j=Wq g.F9:=by
  have:=(AT.1 a5).1;rw[A4]at this;omega
 rw[Nat.sub_self]at a5;obtain rfl:=gj a5;have e2:((FU g (lh l)).F9.take (Wq g.F9)).any (fC (lh l))=VN:=by
  rw[show(FU g (lh l)).F9.take (Wq g.F9)=g.F9 from List.take_left,IS];intro u hu;obtain⟨n1,n2⟩:=hne u hu;simp[fC,lh,ai1 n1,n2]
 unfold yH;rw[bh (by rw[show nE (lh l)=VR by kernel_rfl];simp),bh (by rw[e2];simp),bh (not_not_intro (show 1<=(lh l).Gf.length/\(lh l).Gf.length<=64 from hl))];exact ag9
def Pg(h:GIn g)(hl:l.length<=64)(hs:∀s∈l,∃st n a,s=aV st n 1 [a] 0/\a.on.size<=9223372036854775807)(hv:Wq g.F9<32):GIn (FU g (lh l)):=by
 have mb:(g.F9++[lh l]).length<=1000000:=by simp;omega
 have hx:∀(P:ay->Prop),(∀v∈g.F9,P v)->P (lh l)->∀v∈(FU g (lh l)).F9,P v:=fun P a b v hv=>by
  rcases AS.1 hv with q|q
  ·exact a v q
  obtain rfl:=AM.1 q;exact b
 have hn:Om.size<=9223372036854775807:=by decide
 have he:es.size<=9223372036854775807:=by decide
 refine⟨⟨h.tx.name,h.tx.tags,h.tx.dl,mb,h.tx.hl,h.tx.disk,hx _ h.tx.vol ⟨hn,by simp[lh],fun s hs=>by simp[lh]at hs⟩,h.tx.hist⟩,⟨h.sz.dl,h.sz.dt,mb,hx _ h.sz.vz ⟨by simp[lh],?_,fun s q=>?_⟩⟩,hx _ h.kw fun s q=>?_,hx _ h.st fun s q=>?_⟩
 ·show l.length<=1000000;omega
 all_goals
  obtain⟨st,n,a,rfl,ha⟩:=hs s q
 ·exact⟨Tdp,Tdp⟩
 ·rfl
 exact⟨he,he,fun b hb=>by
  obtain rfl:=AM.1 hb;exact ha,rfl⟩
structure Pt(g:af)(r:aY)(xs:wy RU):Prop where
 len:(xO r xs).length<=12
 fits:Fits r.Gc (xO r xs)
 on:∀y∈xO r xs,∃d x,vM g xs y d x
 inj:∀(i j:Nat) (D E:az),g.Gb[i]?=Vv D->g.Gb[j]?=Vv E->D.name=E.name->i=j
 ok:Wq g.F9<32->GOk (FU g (lh (wE g r.Gc r.Gc (xO r xs))))
def OY(hb:sU g)(hr:A7 r)(hx:tK g r xs)(hl:xs.length=Wq g.Gb)(ae:r.Gc<=12\/4096<=r.Gc)(ha:(uR g r xs).2=VR):Pt g r xs:=by
 have a9:=hr.e;have CD:=hb.tame.dl;obtain⟨-,-,-,hD⟩:=hb.all;obtain⟨aa,a5⟩:=hb.apart;have a7:∀y∈iU xs,∃d x,vM g xs y d x:=fun y hy=>Pb hD hx hl hy
 have h1:∀y∈iU xs,1<=y.2.2:=fun y hy=>by
  obtain⟨d,x,o⟩:=a7 y hy;exact o.b.2.1
 have a8:∀x∈xs,NF x/\ze x<=60:=fun x q=>by
  obtain⟨i,hi⟩:=fc q;obtain⟨d,hd⟩:=aj g.Gb i (by have:=(AT.1 hi).1;omega);have n1:=(hx i d x hd hi).1;have de:=hD d (ct hd);have:=(n1.sum_bd de.1 fun n q=>(GG q).1).2;exact⟨n1.1,WQ⟩
 have Ua:=Lg 0 xs fun x q=>(a8 x q).1
 have hF:Fits r.Gc (xO r xs)/\(xO r xs).Sublist (iU xs):=by
  unfold uR at ha;unfold xO;split at ha
  ·rename_i hw;rw[aw hw];obtain⟨y,hy⟩:=Ly.1 ha;obtain⟨w1,w2,-,-⟩:=Lj (iU xs) VX (fun z h=>by cases h) hy;replace w1:=w1.resolve_right fun h=>by cases h
   rw[hy];refine⟨⟨a9.1,h1 y w1,?_⟩,List.singleton_sublist.2 w1⟩;show r.Gc-min r.Gc y.2.2=0;omega
  rename_i hw;rw[bh hw];obtain⟨p1,p2⟩:=Fits.pcs (iU xs) r.Gc h1 (of_decide_eq_true ha);rw[show max r.Gc 0=r.Gc by omega]at p1;exact⟨p1,p2⟩
 obtain⟨hf,hs⟩:=hF;have hfl:=hf.len;have af:r.Gc<=240:=by
  have:=OP hs h1;have:=MI 0 xs fun x q=>(a8 x q).2;unfold iU at *;omega
 have hL:(xO r xs).length<=12:=by omega
 have ag:1<=(xO r xs).length:=by
  cases hc:xO r xs with
  |nil =>
   rw[hc]at hf;have:r.Gc=0:=hf;omega
  |cons y l=>simp
 have QM:∀y∈xO r xs,∃d x,vM g xs y d x:=fun y hy=>a7 y (hs.subset hy);refine⟨hL,hf,QM,a5,fun hv=>⟨Pg hb.gin (by rw[wW];omega) (fun s q=>?_) hv,O7 hb (by rw[wW];omega) hv ?_ (fun s q=>?_) (fun s q a hq=>?_) ?_ fun p hp q hq=>?_⟩⟩
 ·obtain⟨y,hy,st,n,rfl,-⟩:=uy hf s q;obtain⟨d,x,o⟩:=QM y hy;refine⟨st,n,_,rfl,?_⟩;rw[o.nm];exact(hb.gin.tx.disk d (ct o.hd)).1
 ·have:=LW g g.Gd r.Gc (wE g r.Gc r.Gc (xO r xs)).length hf fun y hy=>by
   obtain⟨d,x,o⟩:=QM y hy;have:=hD d (ct o.hd);have:=o.b;omega
  rwa[Int.sub_self]at this
 ·obtain⟨y,hy,st,n,rfl,-⟩:=uy hf s q;exact ag2 _ _ _ _
 ·obtain⟨y,hy,st,n,rfl,n1,n2⟩:=uy hf s q;obtain⟨d,x,o⟩:=QM y hy;obtain rfl:=AM.1 hq;rw[o.nm];have:=o.b;exact⟨d,hb.tame.dfind _ d o.hd,o.b.1,n1,show y.2.1+n<=d.Gc by omega⟩
 ·rw[af2];exact MK a5 hf QM (Ua.sublist hs)
 rw[af2]at hq;obtain⟨s,hs,hq⟩:=BY.1 hq;obtain⟨y,hy,st,n,rfl,n1,n2⟩:=uy hf s hs;obtain⟨d,x,o⟩:=QM y hy;rw[MF,AM,o.nm]at hq;subst hq;intro e;obtain⟨D,ab,e1,e2,e3,e4⟩:=aa.on p hp;obtain⟨P,hP,rfl⟩:=As.1 hp;obtain⟨j,hj⟩:=fc ab;obtain rfl:j=y.1:=a5 _ _ _ _ hj o.hd (e1.trans e);obtain rfl:=gj (hj.symm.trans o.hd);refine Decidable.byContradiction fun hno=>?_;have ob:=o.b;dsimp only[af7]at *;refine(o.fr (max P.start y.2.1) WQ WQ).2 ⟨_,zz1.2 ⟨P,hP,⟨e1.symm,e2,WQ,WQ⟩,rfl⟩,?_,?_⟩
 ·dsimp only;omega
 dsimp only;omega
def Ol{ok:LN}{u:RH}{x:ay}(h:aN ok w u x):∀z∈u,z.oneCell'=VR:=by
 obtain⟨t,s,rfl,⟨p,c,ht,_⟩,⟨q,d,hs,_⟩⟩:=h;obtain rfl:=IF.1 ht;obtain rfl:=IF.1 hs;simp[Value.oneCell']
def ML{ty:TypeId}(ok:LN)(v:zY)(l:wy ay)(hr:ck aN 6 ok w [v] l)(hl:l.length<=1000000) :
  ∃v' w',(Builtin.append_ #[28,28] ty #[FG VX 0 0,v]).run prog w=.ok v' w'/\bF aN 6 46 w.1.size ok w' v' l/\Below w.1.size w w':=by
 obtain⟨p,cap,e,h1,h2,h3⟩:=hr;obtain rfl:=IF.1 e;obtain⟨i0,hi,du,R0,RC⟩:=gg zT;cases p with
 |none =>
  obtain rfl:l=[]:=by
   cases l with
   |nil=>rfl
   |cons y t =>
    obtain⟨b,off,q,_⟩:=h3 XN;cases q
  exact⟨FG VX 0 0,w,by simp[Builtin.append_,tU underlying28,Go.sizeOf,typeInfo,hi,Builtin.lenOf,Builtin.firstCells],⟨[],gS _ _ _ 6,rfl⟩,bj _ _⟩
 |some ad =>
  have hc:∃cs,Flat aN 6 ok w cs l/\∀(j:Nat) (z:zY),cs[j]?=Vv z->w.cell? (ad.add j)=Vv z:=by
   by_cases h0:0<l.length
   ·obtain⟨b,off,q,_,_,hc⟩:=h3 h0;obtain rfl:=gj q;obtain⟨cs,hf,a5⟩:=jy (fun u x=>Ol) l off hc;exact⟨cs,hf,fun j z hz=>by rw[iz];exact a5 j z hz⟩
   obtain rfl:l=[]:=fX WQ;exact⟨[],rfl,fun j z hz=>by cases hz⟩
  obtain⟨cs,hf,a5⟩:=hc;obtain⟨v',w',a7,a8,hg,-⟩:=run_append_own_at (P:=prog) w w.1.size 28 ty 46 i0 _ 6 _ underlying28 hi du R0 RC lX YR (FG VX 0 0) 0 [] (gS w w.1.size _ 6) ad l.length cap cs (Flat.length l cs hf) a5 (qZ l cs hf) Tdh WQ (bk _);have hb:Below w.1.size w w':=(bj _ _).grown hg (bk _) fun k e=>by cases e
  refine⟨v',w',a7,⟨cs,?_,Flat.moves aN.moves (Mv.of' hb) _ _ hf⟩,hb⟩;rwa[eJ,GO]at a8
def Tfc(h:gt:=by show w.1.size<=w.1.size+1+1;omega):=h
def NJ{ok:LN}(g:af)(a:iX)(xs:wy RU)(px:IH)(cx:Nat)(y:Nat × H5)(d:az)(x:RU)(left:Int)(w:H7)(hg:ck aO 7 ok w [FG a.dp (Wq g.Gb) a.dc] g.Gb)(ho:fH w B (FG px xs.length cx) xs)(hl:xs.length=Wq g.Gb)(CD:Wq g.Gb<=8)
  (h:vM g xs y d x) (ab:∀(i j:Nat) (D E:az),g.Gb[i]?=Vv D->g.Gb[j]?=Vv E->D.name=E.name->i=j) (hle:1<=left/\left<=4096):Calls prog 10 #[Tk (Zg g a),FG px xs.length cx,Tk (Tat d.name y.2.1),Bm Sj left] w fun e w'=>e=S6 (Vj #[Bm Sj y.1,Tk #[Bm Sj y.2.1,Bm Sj (min left y.2.2)]])/\Below w.1.size w w':=by
 obtain⟨m0,a7⟩:=fc h.hy;replace a7:=aa a7;have HR:=aa h;clear h;replace hg:=aa hg;replace ho:=aa ho;replace ab:=aa ab;replace hl:=aa hl;have aJ:y.1<Wq g.Gb:=(AT.1 HR.o.hd).1;have hA1:=ae w (Sx (Zg g a) 31);have US:=b9 w (Sx (Zg g a) 31);generalize RE:w.alloc (Sx (Zg g a) 31)=W1 at *;have R0:W1.1.size=w.1.size+1:=by rw[<- RE];exact cW ..
 have hA2:=ae W1 (Sx (Tat d.name y.2.1) 53);have sC:=b9 W1 (Sx (Tat d.name y.2.1) 53);generalize ag:W1.alloc (Sx (Tat d.name y.2.1) 53)=W2 at *;have RC:W2.1.size=w.1.size+1+1:=by rw[<- ag,cW,R0]
 have hA3:=ae W2 (Sx #[Bm Sj 0,Bm Sj 0] 49);have ao:=b9 W2 (Sx #[Bm Sj 0,Bm Sj 0] 49);have aK:(W2.alloc (Sx #[Bm Sj 0,Bm Sj 0] 49)).1.size=w.1.size+1+1+1:=by rw[cW,RC]
 generalize au:W2.alloc (Sx #[Bm Sj 0,Bm Sj 0] 49)=W3 at *;have HB:=aa (hA1.trans ((hA2.trans (hA3.mono hA2.size)).mono hA1.size));have aD:=aa ((hA3.block _ WQ).trans ((hA2.block _ WQ).trans US));have Ub:=aa ((hA3.block _ WQ).trans sC);have HR1:=aa ao;rw[R0]at Ub;rw[RC]at HR1;replace hg:=aa ((ck.moves aO.moves).mv (Mv.of HB.o) hg.o);replace ho:=aa (ho.o.below HB.o);clear hA1 hA2 hA3 US sC ao;go_enter func10,ntmps10;go_wp2
 try simp only[RE,ag,au]
 clear RE ag au R0 RC;go_loopw[10] (fun i wr=>∃k:Nat,k<=y.1/\i=Bm Sj k/\Below W3.1.size W3 wr) (fun i _=>y.1+1-(intOf i).toNat)
 exact⟨0,cg _,rfl,bj _ _⟩;obtain⟨k,hk,rfl,hB⟩:=hrel;have YZ:=aa hB;clear hB;obtain⟨d',hd⟩:=aj g.Gb k WQ;obtain⟨x',hx⟩:=aj xs k (by have:=hl.o;omega);obtain⟨b3,o3,aL,a8,_,PV,_,Tr,a9⟩:=hg.o.elem hd;obtain⟨Ym,rfl,_⟩:=Tr;have e3:=(Sc YZ.o PV).trans (a9 0 _ lX);rw[fg]at e3;have aM:k<xs.length:=by have:=hl.o;omega
 have g6:wr.cell? (XM w.1.size 6)=Vv (FG a.dp (Wq g.Gb) a.dc):=aZ ((YZ.o.block _ WQ).trans aD.o) 6 _ lX;have hL:=aZ ((YZ.o.block _ WQ).trans Ub.o);obtain⟨a0,a1,a2⟩:=sv3 hL;rw[a8]at g6;clear a8;have HD:=aa (⟨hd,hx⟩:_/\_);clear a9 hd hx hL;by_cases C1:k=y.1
 ·subst C1;have ah:=HD.o.1;rw[HR.o.hd]at ah;obtain rfl:=gj ah;have ai:=HD.o.2;rw[HR.o.hx]at ai;obtain rfl:=gj ai;have hn:(d.name.toList==d.name.toList)=VR:=by simp
  clear ah ai HD;go_upto_region 4 with(fail);go_quiet (fail);clear e3 a0 a1 a2 g6 hn;obtain⟨b4,u4,aE,_,aF,av,aw⟩:=ho.o.at HR.o.hx;obtain⟨p5,c5,rfl,aN,aQ,ay⟩:=aw.rd;have aG:=(AT.1 a7.o).1;obtain⟨b5,o5,rfl,hb5,aA⟩:=ay WQ;have aH:=aa aA;have aI:=aa av;subst aE;clear ay aw av aA;go_wp2;have fy:=aa (aT YZ.o nq)
  go_loopw[11] (fun j wj=>∃m:Nat,m<=m0/\j=Bm Sj m/\Below W3.1.size W3 wj) (fun j _=>m0+1-(intOf j).toNat)
  exact⟨0,cg _,rfl,fy.o⟩;clear YZ fy;obtain⟨m,hm,rfl,hB⟩:=hrel;replace hB:=aa hB;obtain⟨f,hf⟩:=aj x m WQ;obtain⟨f0,f1⟩:=aH.o.below hB.o hb5 m f hf;have u4:=(Sc hB.o aF).trans aI.o;have PX:=HR.o.bx f (ct hf);have vu:=HR.o.de;have aR:=HR.o.b;have aS:m<x.length:=by omega
  have G2:=ae wr (Sx #[Bm Sj f.1,Bm Sj f.2] 49);have fL:=aZ (b9 wr (Sx #[Bm Sj f.1,Bm Sj f.2] 49));have aB:=aq (b9 wr (Sx #[Bm Sj f.1,Bm Sj f.2] 49));have pL:=YS hB G2;go_upto_region 9 with(fail);generalize DA:AI wr _=WA at *;clear DA;have a2:=aZ ((pL.o.block _ WQ).trans Ub.o) 2 _ lX;have z0:=fL 0 _ lX;have z1:=fL 1 _ lX;clear fL G2 u4 f0 f1;by_cases ZE:m=m0
  ·subst ZE;have ak:=a7.o;rw[hf]at ak;obtain rfl:=gj ak;clear ak hf;have r0:=(pL.o.block _ WQ).trans HR1.o;have hd1:V7 (y.2.1 ≥ y.2.1)=VR:=eA (Int.le_refl _);have hd2:V7 (y.2.1-y.2.1<y.2.2)=VR:=eA WQ;go_upto_region 10 with(fail);have HS:Hid (∀w':H7,Below WA.1.size WA w'->w'.cell? (XM (w.1.size+1) 2)=Vv (Bm Sj y.2.1)/\w'.cell? wr.1.size=Vv (Bm Sj y.2.1)/\w'.cell? (XM wr.1.size 1)=Vv (Bm Sj y.2.2)):=aa fun w' e=>⟨(Sc e (by show w.1.size+1<WA.1.size;have:=aq r0;omega)).trans a2,(e.cell (p:=wr.1.size) aB).trans z0,(Sc e aB).trans z1⟩;have B3:=YS HB pL.o;obtain⟨Q',aC,am,hQ⟩:=Mc _;replace am:=aa am;refine wp_mono ?_ aC;clear aC a2 z0 z1 hd1 hd2;refine gW (fun w'=>w'.cell? (XM (w.1.size+1) 2)=Vv (Bm Sj y.2.1)/\w'.cell? wr.1.size=Vv (Bm Sj y.2.1)/\w'.cell? (XM wr.1.size 1)=Vv (Bm Sj y.2.2)) 15 [] Yp (HS.o _ (bj _ _).drew) (fun a5=>?_);refine cH hQ 0 a5 ?_;refine cH hQ 1 a5 ?_;refine cH hQ 14 a5 ?_;refine cH hQ 2 a5 ?_;refine cH hQ 3 a5 ?_;refine cH hQ 4 a5 ?_;refine cH hQ 5 a5 ?_;refine cH hQ 6 a5 ?_;refine cH hQ 7 a5 ?_;refine cH hQ 8 a5 ?_;refine cH hQ 9 a5 ?_;refine cH hQ 10 a5 ?_;refine cH hQ 11 a5 ?_;refine cH hQ 12 a5 ?_;refine cH hQ 13 a5 ?_;refine aP Yp lX ?_;simp only[cQ,cL,km];have r1:=aZ r0 0 _ lX;have r2:=aZ r0 1 _ lX;have rf:WA.frozen? (XM (w.1.size+1+1) 0)=VN:=by simp[BT,r0]
   have rg:WA.frozen? (XM (w.1.size+1+1) 1)=VN:=by simp[BT,r0]
   go_wp2;refine am.o _ _ ?_;go_wp2;rw[show y.2.1+y.2.2-y.2.1=y.2.2 by omega];have k0:=block_setCell (i:=0) (Bm Sj y.2.1) r0;have k1:=block_setCell (i:=1) (Bm Sj (min left y.2.2)) k0;have c0:=aZ k1 0 _ lX;have c1:=aZ k1 1 _ lX;refine eC (v:=Vj #[Bm Sj y.1,Tk #[Bm Sj y.2.1,Bm Sj (min left y.2.2)]]) (by simp[results,Tryz.results10,go_sem,c0,c1]) lX ⟨rfl,?_⟩;exact((B3.o.setCell (p:=⟨w.1.size+1+1,0,VX⟩) Tfc _).setCell (p:=⟨w.1.size+1+1,1,VX⟩) Tfc _).drew
  have hlt:f.1+f.2<y.2.1:=by
   have h1:=It.1 HR.o.nf.2 m m0 WQ aG WQ;obtain⟨_,e1⟩:=AT.1 hf;obtain⟨_,e2⟩:=AT.1 a7.o;rw[e1,e2]at h1;exact h1
  have hd1:V7 (y.2.1 ≥ f.1)=VR:=eA WQ;have hd2:V7 (y.2.1-f.1<f.2)=VN:=cN WQ;clear hf;go_wp2;go_roundw;exact⟨m+1,WQ,Zf,pL.o⟩;exact Ti
 have hn:=jI fun e:d'.name=d.name=>C1 (ab.o _ _ _ _ HD.o.1 HR.o.hd e)
 go_upto_region 4 with(fail);go_quiet (fail);clear e3 a0 a1 a2 g6 hn;go_wp2;go_roundw
 exact⟨k+1,WQ,Zf,aT YZ.o _⟩;exact Ti
def Pm{b:Nat}{z0 z1:zY}(h:W.1[b]?=Vv (Sx #[z0,z1] t (0,0)))(x0 x1:zY):(W.cell? b=Vv z0/\W.cell? (XM b 1)=Vv z1/\∀i,W.frozen? ⟨b,i,VX⟩=VN)/\((W.setCell b x0).setCell (XM b 1) x1).1[b]?=Vv (Sx #[x0,x1] t (0,0))/\∀w B,B<=b->Below B w W->Below B w ((W.setCell b x0).setCell (XM b 1) x1) :=
 ⟨⟨aZ h 0 _ lX,aZ h 1 _ lX,fun i=>by simp[BT,h]⟩,block_setCell x1 (block_setCell x0 h),fun w B hB hb=>(hb.setCell (p:=b) hB x0).setCell (p:=⟨b,1,VX⟩) hB x1⟩
def OQ{ok:LN}{b o:Nat}{ar:aR}(hc:1<=c/\c<=9223372036854775807)(hb:b<W.1.size)(gw:ok b)(h0:W.cell? (b,o)=Vv (Ft ar.vol))(h1:W.cell? (b,o+1)=Vv (By ar.on))(h2:W.cell? (b,o+2)=Vv (Bm Sj ar.start)):ck aQ 3 ok W [FG (Vv (b,o)) 1 c] [ar] :=
 ⟨_,c,rfl,hc.1,hc.2,fun _=>⟨b,o,rfl,hb,gw,fun i x hx=>by
  match i,hx with
  |0,hx =>
   obtain rfl:=gj hx;refine⟨_,rfl,rfl,fun j z hz=>?_⟩;rw[Nat.zero_mul,fg]
   match j,hz with
   |0,hz=>exact hz ▸ h0
   |1,hz=>exact hz ▸ h1
   |2,hz=>exact hz ▸ h2⟩⟩
def bF.stay{α:Type}{V:jx α}(hV:Moves V){ok:LN}{l:wy α}(h:bF V sz t B ok w v l)(hb:Below w.1.size w w'):bF V sz t B ok w' v l:=by
 obtain⟨cs,ho,hf⟩:=h;exact⟨cs,aC ho fun k e=>hb.block k (ho.lt k e).2,Flat.moves hV (Mv.of' hb) _ _ hf⟩
def Lf{o:Oper}{dd:Tmp}{a:Act}{K:Act->H7->Prop}(a7:o.dst=Vv dd){s x:Operand}(a8:o.op=Op.call { callee:=Callee.builtin Builtin.append,args:=#[s,x],argTypes:=#[28,28] })(ok:LN)(l:wy ay)(hs:a.eval s=FG VX 0 0)(hx:a.eval x=v)(hr:ck aN 6 ok w [v] l)(hl:l.length<=1000000)
  (hK:∀v' w',bF aN 6 46 w.1.size ok w' v' l->Below w.1.size w w'->K (a.put (Vv dd) v') w'):Oper.wp prog o a w K Q:=by
 obtain⟨v',w',a5,ho,hb⟩:=ML (ty:=o.type) ok v l hr hl;unfold Oper.wp;simp only[execOp,a8,resolve,invoke,builtin,Sem.run_bind,Sem.run_pure,ud,tS,iu,List.map_nil,hs,hx,a5];show K (a.put o.dst v') w';rw[a7];exact hK v' w' ho hb
def Nu{ok:LN}(w:H7)(g:af)(a:iX)(xs:wy RU)(Bg b1 b2 o2:Nat)(cc k:Nat)(y:Nat × H5)(d:az)(x:RU)(left:Int)(hgb:w.1[Bg]?=Vv (Sx (Zg g a) 31 (0,0)))(ah:k<n)
  (a8:b1<w.1.size) (h1:w.cell? b1=Vv (FG (Vv (b2,o2)) n cc)) (hb2:b2<w.1.size) (hv:w.cell? (b2,o2+k*3)=Vv (Ft VN)) (ho:w.cell? (b2,o2+k*3+1)=Vv (By d.name)) (hs:w.cell? (b2,o2+k*3+2)=Vv (Bm Sj y.2.1))
  (hg:ck aO 7 ok w [FG a.dp (Wq g.Gb) a.dc] g.Gb) (hx:fH w B (FG px xs.length cx) xs) (hl:xs.length=Wq g.Gb) (CD:Wq g.Gb<=8) (h:vM g xs y d x) (a9:∀(i j:Nat) (D E:az),g.Gb[i]?=Vv D->g.Gb[j]?=Vv E->D.name=E.name->i=j) (hle:1<=left/\left<=4096)
  (HK:Hid (∀(u61 u62 u63 u64 u65 u66 u67 u68 u69 u70 u71 u72 u73:zY) (b:Nat) (W':H7),Below w.1.size w W'->w.1.size<=b->W'.1[b]?=Vv (Sx #[Bm Sj y.2.1,Bm Sj (min left y.2.2)] 49 (0,0))->Q .normal ⟨#[c0,c1,c2,c3,SL (Vv Bg),c5,FG (Vv b1) 1 cv,c7,FG px xs.length cx,c9,c10,Bm Sj left,Bm Sj (k:Int),Bm Sj (y.1:Int),SL (Vv b),RK,RW,Rr,SO,Se,St,W0,ZD,Wg,Wr,To,UP,aE,ab,eS,da,dj,dq,fs,gE,ff,fb,fa,mT,me,ph,qe,qk,mu,mw,mx,nF,pr,o4,oE,oR,oS,pe,qt,qv,rl,rm,sE,sa,sd,yk,u61,u62,u63,u64,u65,u66,u67,u68,u69,u70,u71,u72,u73,bn,bo,br,bt,bu,bA,bB,bL,cp,cw,cy,cB,d8,db,ds,e6,e8,e9,ea,ch,ci,cn,co,eb,ed,ef,lE,lP,gn,iS,im,ka,kc,ke,pt,ta,tb,te,tf,ti,tr,tt,tw,vf,vj,vm,we,wg,wv,yW],[]⟩ W'))
  (hQ:∀c (a:Act) (d:Tmp) (v:zY) w,Q (.panic c) (a.put (Vv d) v) w->Q (.panic c) a w) :
  (Ai Tryz.f3 16).wp prog Q ⟨#[c0,c1,c2,c3,SL (Vv Bg),c5,FG (Vv b1) 1 cv,c7,FG px xs.length cx,c9,c10,Bm Sj left,Bm Sj (k:Int),Sf,TO,RK,RW,Rr,SO,Se,St,W0,ZD,Wg,Wr,To,UP,aE,ab,eS,da,dj,dq,fs,gE,ff,fb,fa,mT,me,ph,qe,qk,mu,mw,mx,nF,pr,o4,oE,oR,oS,pe,qt,qv,rl,rm,sE,sa,sd,yk,zd,zp,bV,ca,cb,ce,am,an,b7,b8,ba,be,bf,bn,bo,br,bt,bu,bA,bB,bL,cp,cw,cy,cB,d8,db,ds,e6,e8,e9,ea,ch,ci,cn,co,eb,ed,ef,lE,lP,gn,iS,im,ka,kc,ke,pt,ta,tb,te,tf,ti,tr,tt,tw,vf,vj,vm,we,wg,wv,yW],[]⟩ w:=by
 conv=>arg 2;whnf
 have vh:=aq hgb;have hS:∀w':H7,Below w.1.size w w'->(w'.cell? b1=Vv (FG (Vv (b2,o2)) n cc)/\w'.cell? (b2,o2+k*3)=Vv (Ft VN)/\w'.cell? (b2,o2+k*3+1)=Vv (By d.name)/\w'.cell? (b2,o2+k*3+2)=Vv (Bm Sj y.2.1)/\ON w' Bg g a):=fun w' e=>by
  have h2:=(e.block Bg vh).trans hgb;exact⟨(e.cell (p:=b1) a8).trans h1,(Sc e hb2).trans hv,(Sc e hb2).trans ho,(Sc e hb2).trans hs,cr h2 _ _ lX,cr h2 _ _ lX,cr h2 _ _ lX,cr h2 _ _ lX,cr h2 _ _ lX,cr h2 _ _ lX,cr h2 _ _ lX,cr h2 _ _ lX,cr h2 _ _ lX⟩
 replace hS:=aa hS;have HC:Hid (∀W:H7,Below w.1.size w W->Calls prog 10 #[Tk (Zg g a),FG px xs.length cx,Tk (Tat d.name y.2.1),Bm Sj left] W fun e w'=>e=S6 (Vj #[Bm Sj y.1,Tk #[Bm Sj y.2.1,Bm Sj (min left y.2.2)]])/\Below W.1.size W w'):=aa fun W hb=>NJ g a xs px cx y d x left W ((ck.moves aO.moves).mv (Mv.of hb) hg) (hx.below hb) hl CD h a9 hle;clear hg hx hl CD h a9 hle hgb h1 hv ho hs;refine gW (fun w'=>w'.cell? b1=Vv (FG (Vv (b2,o2)) n cc)/\w'.cell? (b2,o2+k*3)=Vv (Ft VN)/\w'.cell? (b2,o2+k*3+1)=Vv (By d.name)/\w'.cell? (b2,o2+k*3+2)=Vv (Bm Sj y.2.1)/\ON w' Bg g a) 16 [] Yp (hS.o _ (bj _ _).drew) (fun a5=>?_);refine cH hQ 0 a5 ?_;refine cH hQ 1 a5 ?_;refine cH hQ 2 a5 ?_;refine cH hQ 3 a5 ?_;refine cH hQ 4 a5 ?_;refine cH hQ 5 a5 ?_;refine cH hQ 6 a5 ?_;refine cH hQ 7 a5 ?_;refine cH hQ 8 a5 ?_;refine mh (i:=9) (j:=13) lX rfl rfl rfl Yp (fun K hK=>?_) (fun K hK=>?_)
 ·go_simp;refine(HC.o _ (bj _ _).drew).mono ?_;rintro e w1 ⟨rfl,a8⟩;have a7:Below w.1.size w w1:=⟨a8.os,a8.tape,a8.output,a8.size,a8.block⟩;refine hK.o _ _ (hS.o _ a7) ?_;clear hK K a5;have a5:=hS.o _ a7;clear a8;replace a7:=aa a7;refine cH hQ 10 a5 ?_;refine cH hQ 11 a5 ?_;refine cH hQ 12 a5 ?_;refine lR 13 fun K hK=>?_;go_simp;have hb2:Below w.1.size w (w1.alloc (Sx #[Bm Sj 0,Bm Sj 0] 49)):=a7.o.alloc a7.o.size _;refine hK.o _ _ (hS.o _ hb2) ?_;clear hK K a5;have gh:=b9 w1 (Sx #[Bm Sj 0,Bm Sj 0] 49);have mA:=a7.o.size;generalize ae:AI w1 _=W2 at *;generalize ag:w1.1.size=b0 at *;clear ae ag a7;obtain⟨⟨z0,z1,zf⟩,sk,sb⟩:=Pm gh (Bm Sj y.2.1) (Bm Sj (min left y.2.2));have cJ:=aa (sb _ _ mA hb2);have F2:=aa sk;clear sb sk gh;refine lR 14 fun K hK=>?_;go_simp;refine hK.o _ _ (hS.o _ hb2) ?_;clear hK K;refine lR 15 fun K hK=>?_;go_simp;refine hK.o _ _ (hS.o _ cJ.o) ?_;clear hK K;refine aP Yp lX ?_;simp only[cQ,km,cL];exact HK.o _ _ _ _ _ _ _ _ _ _ _ _ _ _ _ cJ.o mA F2.o
 go_simp;have hb2:Below w.1.size w (w.drew.alloc (Sx #[Bm Sj 0,Bm Sj 0] 49)):=((bj _ _).drew).alloc (bk _) _;refine hK.o _ _ (hS.o _ hb2) ?_;clear hK K a5;have a5:=hS.o _ hb2;refine lR 9 fun K hK=>?_;go_simp;refine(HC.o _ hb2).mono ?_;rintro e w1 ⟨rfl,a8⟩;have a7:Below w.1.size w w1:=hb2.trans (a8.mono hb2.size);refine hK.o _ _ (hS.o _ a7) ?_;clear hK K a5;have a5:=hS.o _ a7;have gh:w1.1[w.1.size]?=Vv (Sx #[Bm Sj 0,Bm Sj 0] 49 (0,0)):=(a8.block _ XN).trans (b9 w.drew (Sx #[Bm Sj 0,Bm Sj 0] 49));have mA:w.1.size<=w.1.size:=bk _;clear hb2;have hb2:=a7;clear a8 a7;generalize w1=W2 at *;refine cH hQ 10 a5 ?_;refine cH hQ 11 a5 ?_;refine cH hQ 12 a5 ?_;obtain⟨⟨z0,z1,zf⟩,sk,sb⟩:=Pm gh (Bm Sj y.2.1) (Bm Sj (min left y.2.2));have cJ:=aa (sb _ _ mA hb2);have F2:=aa sk;clear sb sk gh;refine lR 14 fun K hK=>?_;go_simp;refine hK.o _ _ (hS.o _ hb2) ?_;clear hK K;refine lR 15 fun K hK=>?_;go_simp;refine hK.o _ _ (hS.o _ cJ.o) ?_;clear hK K;refine aP Yp lX ?_;simp only[cQ,km,cL];exact HK.o _ _ _ _ _ _ _ _ _ _ _ _ _ _ _ cJ.o mA F2.o
def TaL(x0:zY):Tab #[By ⟨#[110,101,119]⟩,Bm U8 9223372036854775808,Ft VN,Ft VN,FG VX 0 0,x0]:=⟨⟩
def TaE(x0:Int)(x1:Int)(x2:IH)(x3:Nat):Tab #[Bm Sj x0,Bm Sj x1,Bm Sj 1,FG x2 1 x3,Bm Sj 0,FG VX 0 0,By ⟨#[]⟩,By ⟨#[]⟩,Bm Sj 0,Bm Sj 0,Bm Sj 0]:=⟨⟩
def NN{ok0:LN}(w:H7)(Bq b1 b2 o2:Nat)(cc k Bv Bx:Nat)(left e m:Int)(sv:zY)(l:wy aB)(ar:aR)(XV:w.1[Bv]?=Vv (Sx (TaL sv) 46 (0,0)))(PX:w.1[Bx]?=Vv (Sx #[mv,m] 49 (0,0)))
  (a8:∀q,ok0 q->q<Bv) (aw:Bv<Bx) (kq:Bq<w.1.size) (hq:w.cell? (XM Bq 2)=Vv (Bm Sj e)) (ah:b1<w.1.size) (h1:w.cell? b1=Vv (FG (Vv (b2,o2)) n cc)) (ay:k<n) (hn:n<=cc/\cc<=9223372036854775807) (he:0<=left/\left<=e/\e<=4096) (hll:l.length<=1000)
  (hA:ck aQ 3 ok0 w [FG (Vv (b2,o2+k*3)) 1 (cc-k)] [ar]) (hO:bF bC 11 55 (Bv+1) ok0 w sv l)
  (HK:Hid (∀(u74 u75 u76 u77 u78 u79 u80 u81 u82 u83 u84 u85 u86 u87 u88 u89 u90 u91 u92 a9:zY) (W':H7),W'.1[Bv]?=Vv (Sx (TaL a9) 46 (0,0))->bF bC 11 55 (Bv+1) ok0 W' a9 (l++[aV (e-left) m 1 [ar] 0])->Below Bv w W'->W'.1[Bx]?=Vv (Sx #[mv,m] 49 (0,0))->Q .normal ⟨#[c0,c1,c2,c3,c4,SL (Vv Bq),FG (Vv b1) 1 cv,c7,c8,c9,SL (Vv Bv),Bm Sj left,Bm Sj (k:Int),Sf,SL (Vv Bx),RK,RW,Rr,SO,Se,St,W0,ZD,Wg,Wr,To,UP,aE,ab,eS,da,dj,dq,fs,gE,ff,fb,fa,mT,me,ph,qe,qk,mu,mw,mx,nF,pr,o4,oE,oR,oS,pe,qt,qv,rl,rm,sE,sa,sd,yk,zd,zp,bV,ca,cb,ce,am,an,b7,b8,ba,be,bf,u74,u75,u76,u77,u78,u79,u80,u81,u82,u83,u84,u85,u86,u87,u88,u89,u90,u91,u92,ch,ci,cn,co,eb,ed,ef,lE,lP,gn,iS,im,ka,kc,ke,pt,ta,tb,te,tf,ti,tr,tt,tw,vf,vj,vm,we,wg,wv,yW],[]⟩ W'))
  (hQ:∀c (a:Act) (d:Tmp) (v:zY) w,Q (.panic c) (a.put (Vv d) v) w->Q (.panic c) a w) :
  (Ai Tryz.f3 17).wp prog Q ⟨#[c0,c1,c2,c3,c4,SL (Vv Bq),FG (Vv b1) 1 cv,c7,c8,c9,SL (Vv Bv),Bm Sj left,Bm Sj (k:Int),Sf,SL (Vv Bx),RK,RW,Rr,SO,Se,St,W0,ZD,Wg,Wr,To,UP,aE,ab,eS,da,dj,dq,fs,gE,ff,fb,fa,mT,me,ph,qe,qk,mu,mw,mx,nF,pr,o4,oE,oR,oS,pe,qt,qv,rl,rm,sE,sa,sd,yk,zd,zp,bV,ca,cb,ce,am,an,b7,b8,ba,be,bf,bn,bo,br,bt,bu,bA,bB,bL,cp,cw,cy,cB,d8,db,ds,e6,e8,e9,ea,ch,ci,cn,co,eb,ed,ef,lE,lP,gn,iS,im,ka,kc,ke,pt,ta,tb,te,tf,ti,tr,tt,tw,vf,vj,vm,we,wg,wv,yW],[]⟩ w:=by
 conv=>arg 2;whnf
 have vA:=aq XV;have af:=aq PX;have hS:∀w':H7,Below w.1.size w w'->(w'.cell? (XM Bv 5)=Vv sv/\w'.cell? (XM Bq 2)=Vv (Bm Sj e)/\w'.cell? (XM Bx 1)=Vv (Bm Sj m)/\w'.cell? b1=Vv (FG (Vv (b2,o2)) n cc)):=fun w' e =>
  ⟨(Sc e vA).trans (aZ XV 5 _ lX),(Sc e kq).trans hq,(Sc e af).trans (aZ PX 1 _ lX),(e.cell (p:=b1) ah).trans h1⟩
 replace hS:=aa hS;replace XV:=aa XV;replace PX:=aa PX;replace hA:=aa hA;replace hO:=aa hO;obtain⟨i0,hi,du,R0,RC⟩:=gg Am;replace hi:=aa hi;replace du:=aa du;replace R0:=aa R0;replace RC:=aa RC;clear hq h1;have ai:IntKind.i64.wrap ((k:Int)+1)=(k:Int)+1:=dy _ WQ;have aj:IntKind.i64.wrap (e-left)=e-left:=dy _ WQ;have ak:(0:Int)<=(k:Int)+1:=by omega
 have ao:(k:Int)+1<=(cc:Int):=by omega
 have au:((k:Int)+1).toNat=k+1:=by omega
 have av:¬cc=k:=by omega
 refine gW (fun w'=>w'.cell? (XM Bv 5)=Vv sv/\w'.cell? (XM Bq 2)=Vv (Bm Sj e)/\w'.cell? (XM Bx 1)=Vv (Bm Sj m)/\w'.cell? b1=Vv (FG (Vv (b2,o2)) n cc)) 17 [] Yp (hS.o _ (bj _ _).drew) (fun a5=>?_);refine cH hQ 0 a5 ?_;refine cH hQ 1 a5 ?_;refine cH hQ 2 a5 ?_;refine cH hQ 3 a5 ?_;refine cH hQ 4 a5 ?_;refine cH hQ 5 a5 ?_;refine cH hQ 6 a5 ?_;refine cH hQ 7 a5 ?_;refine cH hQ 8 a5 ?_;refine cH hQ 9 a5 ?_;refine cH hQ 10 a5 ?_;refine cH hQ 11 a5 ?_;refine cH hQ 12 a5 ?_;refine cH hQ 13 a5 ?_;refine cH hQ 14 a5 ?_;refine cH hQ 15 a5 ?_;refine lR 16 fun K hK=>?_;go_simp;have jn:Below w.1.size w ((w.alloc (Sx (TaE (e-left) m (Vv ⟨b2,o2+k*3,VX⟩) (cc-k)) 55)).drew):=(ae _ _).drew
 have QM:∀(i:Nat) (y:zY),[Bm Sj (e-left),Bm Sj m,Bm Sj 1,FG (Vv (b2,o2+k*3)) 1 (cc-k),Bm Sj 0,FG VX 0 0,By ⟨#[]⟩,By ⟨#[]⟩,Bm Sj 0,Bm Sj 0,Bm Sj 0][i]?=Vv y->((w.alloc (Sx (TaE (e-left) m (Vv ⟨b2,o2+k*3,VX⟩) (cc-k)) 55)).drew).cell? ⟨w.1.size,i,VX⟩=Vv y:=fun i y hy=>by
  show(w.alloc _).cell? _=_;exact aD lX Tdr
 have mA:w.1.size+1=((w.alloc (Sx (TaE (e-left) m (Vv ⟨b2,o2+k*3,VX⟩) (cc-k)) 55)).drew).1.size:=by simp
 generalize RE:(w.alloc (Sx (TaE (e-left) m (Vv ⟨b2,o2+k*3,VX⟩) (cc-k)) 55)).drew=W1 at *;clear RE;refine hK.o _ _ (hS.o _ jn) ?_;clear hK K a5 ai aj ak ao au av;refine aP Yp lX ?_;simp only[cQ,cL];have hm:Mv ok0 ok0 w W1:=⟨jn.size,fun q h1 h2=>⟨h2,jn.block q h1⟩⟩
 have ag:bF bC 11 55 (Bv+1) ok0 W1 sv l:=by
  obtain⟨cs,ho,hf⟩:=hO.o;exact⟨cs,aC ho fun k e=>jn.block k (ho.lt k e).2,Flat.moves bC.moves hm _ _ hf⟩
 have hA1:bC ok0 W1 [Bm Sj (e-left),Bm Sj m,Bm Sj 1,FG (Vv (b2,o2+k*3)) 1 (cc-k),Bm Sj 0,FG VX 0 0,By ⟨#[]⟩,By ⟨#[]⟩,Bm Sj 0,Bm Sj 0,Bm Sj 0] (aV (e-left) m 1 [ar] 0):=⟨_,_,rfl,(ck.moves aQ.moves).mv hm hA.o,VX,0,rfl,bk _,show(0:Nat)<=9223372036854775807 by decide,fun h=>absurd h (Nat.lt_irrefl 0)⟩
 have TU:∀k,sv.ownBlock=Vv k->Bv+1<=k:=fun k q=>by
  obtain⟨cs,ho,_⟩:=hO.o;exact(ho.lt k q).1
 have hne:sv.ownBlock≠Vv Bx:=fun q=>by
  obtain⟨cs,hb⟩:=bF.ty hO.o q;rw[PX.o]at hb;injection hb with hb;injection hb with _ hb;revert hb
  decide
 refine dX bC.moves underlying44 hi.o du.o R0.o RC.o lX YR YR lX ZR (Bv+1) ok0 sv l (aV (e-left) m 1 [ar] 0) ZR ag w.1.size 1 [Bm Sj (e-left),Bm Sj m,Bm Sj 1,FG (Vv ⟨b2,o2+k*3,VX⟩) 1 (cc-k),Bm Sj 0,FG VX 0 0,By ⟨#[]⟩,By ⟨#[]⟩,Bm Sj 0,Bm Sj 0,Bm Sj 0] ZR ZR hA1 Tdj QM WQ WQ (fun q e h=>by have:=TU q e;have:=a8 q h;omega) (fun gb cap w3 hp=>?_);have kb:∀k,k<w.1.size->sv.ownBlock≠Vv k->w3.1[k]?=w.1[k]?:=fun k hk q=>(hp.grown.block k WQ fun e=>q e.symm).trans (jn.block k hk);have hb3:Below (Bv+1) w w3:=(jn.mono WQ).grown hp.grown WQ TU;have a7:=(kb Bv vA fun q=>by have:=TU _ q;omega).trans XV.o;have hx3:=(kb Bx af hne).trans PX.o;have y5:w3.cell? (XM Bv 5)=Vv sv:=aZ a7 5 _ lX;have yf:w3.frozen? (XM Bv 5)=VN:=by simp[BT,a7]
 replace hp:=aa hp;clear kb hS hA hO hA1 ag QM hm;go_wp2;have kk:∀(z:zY) (k:Nat),k≠Bv->(w3.setCell (XM Bv 5) z).1[k]?=w3.1[k]?:=fun z k e=>bw _ _ _ _ e;refine HK.o _ _ _ _ _ _ _ _ _ _ _ _ _ _ _ _ _ _ _ _ _ (block_setCell _ a7) ?_ ((hb3.mono WQ).setCell (p:=⟨Bv,5,VX⟩) (bk Bv) _) ((kk _ Bx WQ).trans hx3);obtain⟨cs,ho,hf⟩:=hp.o.own;exact⟨cs,aC ho fun k e=>kk _ k Teh,Flat.moves bC.moves ⟨Tdi,fun q _ h2=>⟨h2,kk _ q (by have:=a8 q h2;omega)⟩⟩ _ _ hf⟩
def Tax(x0:Nat)(x1:IH)(x2:Nat):Tab #[By ⟨#[110,101,119]⟩,Bm U8 9223372036854775808,Ft VN,Ft VN,FG VX 0 0,FG x1 x0 x2]:=⟨⟩
def NY{c6:zY}(w:H7)(g:af)(a:iX)(Bg Bv:Nat)(l:wy aB)(hgb:w.1[Bg]?=Vv (Sx (Zg g a) 31 (0,0)))(XV:w.1[Bv]?=Vv (Sx (Tax n p c) 46 (0,0)))(hV:ck aN 6 (fun q=>q<w.1.size/\q≠Bg) w [FG a.vp (Wq g.F9) a.vc] g.F9)(hS:ck bC 11 (fun q=>q<w.1.size/\q≠Bg) w [FG p n c] l)(mb:Wq g.F9<=1000)
  (HK:Hid (∀(u97 u98 u99 u100 u101 u102 u103:zY) (vp:IH) (vc:Nat) (W':H7),W'.1[Bg]?=Vv (Sx #[g.name,Bm U8 g.id,Bm Sj g.seq,Bm Sj g.Gd,Bm Sj g.next,FG a.tp (Wq g.tags) a.tc,FG a.dp (Wq g.Gb) a.dc,FG vp (g.F9++[lh l]).length vc,FG a.hp (Wq g.history) a.hc] 31 (0,0))->ck aN 6 (fun _=>True) W' [FG vp (g.F9++[lh l]).length vc] (g.F9++[lh l])->Below Bg w W'->Q .normal ⟨#[c0,c1,c2,c3,SL (Vv Bg),c5,c6,c7,c8,c9,SL (Vv Bv),ZS,ao,Sf,TO,RK,RW,Rr,SO,Se,St,W0,ZD,Wg,Wr,To,UP,aE,ab,eS,da,dj,dq,fs,gE,ff,fb,fa,mT,me,ph,qe,qk,mu,mw,mx,nF,pr,o4,oE,oR,oS,pe,qt,qv,rl,rm,sE,sa,sd,yk,zd,zp,bV,ca,cb,ce,am,an,b7,b8,ba,be,bf,bn,bo,br,bt,bu,bA,bB,bL,cp,cw,cy,cB,d8,db,ds,e6,e8,e9,ea,ch,ci,cn,co,u97,u98,u99,u100,u101,u102,u103,im,ka,kc,ke,pt,ta,tb,te,tf,ti,tr,tt,tw,vf,vj,vm,we,wg,wv,yW],[]⟩ W'))
  (hQ:∀c (a:Act) (d:Tmp) (v:zY) w,Q (.panic c) (a.put (Vv d) v) w->Q (.panic c) a w) :
  (Ai Tryz.f3 19).wp prog Q ⟨#[c0,c1,c2,c3,SL (Vv Bg),c5,c6,c7,c8,c9,SL (Vv Bv),ZS,ao,Sf,TO,RK,RW,Rr,SO,Se,St,W0,ZD,Wg,Wr,To,UP,aE,ab,eS,da,dj,dq,fs,gE,ff,fb,fa,mT,me,ph,qe,qk,mu,mw,mx,nF,pr,o4,oE,oR,oS,pe,qt,qv,rl,rm,sE,sa,sd,yk,zd,zp,bV,ca,cb,ce,am,an,b7,b8,ba,be,bf,bn,bo,br,bt,bu,bA,bB,bL,cp,cw,cy,cB,d8,db,ds,e6,e8,e9,ea,ch,ci,cn,co,eb,ed,ef,lE,lP,gn,iS,im,ka,kc,ke,pt,ta,tb,te,tf,ti,tr,tt,tw,vf,vj,vm,we,wg,wv,yW],[]⟩ w:=by
 conv=>arg 2;whnf
 have ag:=aq hgb;have vA:=aq XV;have a7:∀w':H7,Below w.1.size w w'->(w'.cell? (XM Bg 7)=Vv (FG a.vp (Wq g.F9) a.vc)/\w'.cell? Bv=Vv (By ⟨#[110,101,119]⟩)/\w'.cell? (XM Bv 1)=Vv (Bm U8 9223372036854775808)/\w'.cell? (XM Bv 2)=Vv (Ft VN)/\w'.cell? (XM Bv 3)=Vv (Ft VN)/\w'.cell? (XM Bv 4)=Vv (FG VX 0 0)/\w'.cell? (XM Bv 5)=Vv (FG p n c)):=fun w' e=>by
  have h2:=(e.block Bv vA).trans XV;exact⟨(Sc e ag).trans (aZ hgb 7 _ lX),cr h2 _ _ lX,cr h2 _ _ lX,cr h2 _ _ lX,cr h2 _ _ lX,cr h2 _ _ lX,cr h2 _ _ lX⟩
 replace a7:=aa a7;replace hgb:=aa hgb;replace hV:=aa hV;have HN:Hid (aN (fun q=>q<w.1.size/\q≠Bg) w [By ⟨#[110,101,119]⟩,Bm U8 9223372036854775808,Ft VN,Ft VN,FG VX 0 0,FG p n c] (lh l)):=aa ⟨_,_,rfl,⟨VX,0,rfl,bk _,show(0:Nat)<=9223372036854775807 by decide,fun h=>absurd h (Nat.lt_irrefl 0)⟩,hS⟩;clear hS XV;obtain⟨i0,hi,du,R0,RC⟩:=gg zT;replace hi:=aa hi;replace du:=aa du;replace R0:=aa R0;replace RC:=aa RC;refine gW (fun w'=>w'.cell? (XM Bg 7)=Vv (FG a.vp (Wq g.F9) a.vc)/\w'.cell? Bv=Vv (By ⟨#[110,101,119]⟩)/\w'.cell? (XM Bv 1)=Vv (Bm U8 9223372036854775808)/\w'.cell? (XM Bv 2)=Vv (Ft VN)/\w'.cell? (XM Bv 3)=Vv (Ft VN)/\w'.cell? (XM Bv 4)=Vv (FG VX 0 0)/\w'.cell? (XM Bv 5)=Vv (FG p n c)) 5 [] Yp (a7.o _ (bj _ _).drew) (fun a5=>?_);refine cH hQ 0 a5 ?_;refine cH hQ 1 a5 ?_;refine cH hQ 3 a5 ?_;refine mh (i:=2) (j:=4) lX rfl rfl rfl Yp (fun K hK=>?_) (fun K hK=>?_);refine Lf lX lX (fun q=>q<w.1.size/\q≠Bg) g.F9 lX rfl ((ck.moves aN.moves).mv ⟨bk _,fun q _ h2=>⟨h2,rfl⟩⟩ hV.o) WQ fun v' w1 ho hb=>?_;have a8:Below w.1.size w w1:=⟨hb.os,hb.tape,hb.output,hb.size,hb.block⟩;refine hK.o _ _ (a7.o _ a8) ?_;clear hK K a5 hb;refine lR 4 fun K hK=>?_;go_simp;have hA:=ae w1 (Sx (Tax n p c) 46);have hb2:=a8.trans (hA.mono a8.size);refine hK.o _ _ (a7.o _ hb2) ?_;have hO:=ho.stay aN.moves hA;have QM:∀(j:Nat) (z:zY),[By ⟨#[110,101,119]⟩,Bm U8 9223372036854775808,Ft VN,Ft VN,FG VX 0 0,FG p n c][j]?=Vv z->(w1.alloc (Sx (Tax n p c) 46)).cell? ⟨w1.1.size,j,VX⟩=Vv z:=fun j z hz=>aD lX (by simpa using hz);have hB:w.1.size<=w.drew.1.size:=bk _;have ah:w.drew.1.size<=(w1.alloc (Sx (Tax n p c) 46)).1.size:=hb2.size;generalize w1.alloc (Sx (Tax n p c) 46)=W2 at *;generalize w.drew.1.size=B at *;generalize w1.1.size=bN at *;clear hK K hA a8 ho
 rotate_left
 go_simp;have hA:Below w.1.size w ((w.alloc (Sx (Tax n p c) 46)).drew):=(ae _ _).drew;refine hK.o _ _ (a7.o _ hA) ?_;clear hK K a5;refine lR 2 fun K hK=>?_;refine Lf lX lX (fun q=>q<w.1.size/\q≠Bg) g.F9 lX rfl ((ck.moves aN.moves).mv ⟨hA.size,fun q h1 h2=>⟨h2,hA.block q h1⟩⟩ hV.o) WQ fun v' W2 hO hb=>?_;have hb2:=hA.trans (hb.mono hA.size);refine hK.o _ _ (a7.o _ hb2) ?_;have QM:∀(j:Nat) (z:zY),[By ⟨#[110,101,119]⟩,Bm U8 9223372036854775808,Ft VN,Ft VN,FG VX 0 0,FG p n c][j]?=Vv z->W2.cell? ⟨w.1.size,j,VX⟩=Vv z:=fun j z hz=>(Sc hb XN).trans (aD (b:=w.1.size) (w:=w) lX (by simpa using hz));have hB:=hA.size;have ah:=hb.size;generalize ((w.alloc (Sx (Tax n p c) 46)).drew).1.size=B at *;clear hK K hb hA;simp only[aS]
 all_goals
  refine aP Yp lX ?_;simp only[cQ,cL];have sC:aN (fun q=>q<w.1.size/\q≠Bg) W2 [By ⟨#[110,101,119]⟩,Bm U8 9223372036854775808,Ft VN,Ft VN,FG VX 0 0,FG p n c] (lh l):=aN.moves.mv ⟨hb2.size,fun q h1 h2=>⟨h2,hb2.block q h1⟩⟩ HN.o;have TU:∀k,v'.ownBlock=Vv k->B<=k:=fun k q=>by
   obtain⟨cs,ho,_⟩:=hO;exact(ho.lt k q).1
  refine dX aN.moves underlying28 hi.o du.o R0.o RC.o lX YR YR lX ZR B (fun q=>q<w.1.size/\q≠Bg) v' g.F9 (lh l) ZR hO _ 1 [By ⟨#[110,101,119]⟩,Bm U8 9223372036854775808,Ft VN,Ft VN,FG VX 0 0,FG p n c] ZR ZR sC Tdj QM WQ ah (fun q e h=>by have:=TU q e;omega) (fun gb cap w3 hp=>?_);have hb3:Below w.1.size w w3:=hb2.grown hp.grown hb2.size fun k e=>cA hB (TU k e);have a9:=(hb3.block Bg ag).trans hgb.o;have y7:=aZ a9 7 _ lX;have yf:w3.frozen? (XM Bg 7)=VN:=by simp[BT,a9]
  replace hp:=aa hp;clear sC QM hO;go_wp2;have own:=hp.o.own;have e:Wq g.F9+1=(g.F9++[lh l]).length:=by simp
  rw[e]at own ⊢;refine HK.o _ _ _ _ _ _ _ _ _ _ (block_setCell _ a9) ?_ ((hb3.mono WQ).setCell (p:=⟨Bg,7,VX⟩) (bk Bg) _);have kf:=own.rd (ok':=fun q=>q≠Bg) aN.moves YR (fun _ _ h=>h.2) fun q e=>by
   obtain⟨cs,ho,_⟩:=own;have:=(ho.lt q e).1;omega
  exact(ck.moves aN.moves).mv ⟨Tdi,fun q _ h=>⟨trivial,bw _ _ _ _ h⟩⟩ kf
attribute [local go_sem] Oper.semAt_some run_makeMap_plain
def Nz(l:wy (Nat × H5)):Int:=l.foldl (fun m x=>max m x.2.2) 0
def hvN(r:aY)(l:wy (Nat × H5)):Int:=if r.Gg=1 then Nz l else jU l
def NM(l:wy (Nat × H5))(x:Nat × H5):Nz (l++[x])=max (Nz l) x.2.2:=by simp[Nz,List.foldl_append]
def Nq:∀(l:wy (Nat × H5)) (m:Int),0<=m->m<=4096->(∀y∈l,1<=y.2.2/\y.2.2<=4096)->0<=l.foldl (fun m x=>max m x.2.2) m/\l.foldl (fun m x=>max m x.2.2) m<=4096
 |[],m,h0,h1,_=>⟨h0,h1⟩
 |y :: l,m,h0,h1,h=>by
  have hy:=h y (cG ..);exact Nq l (max m y.2.2) WQ WQ fun z hz=>h z (kn _ hz)
def RfI(g:af)(a:iX)(r:aY)(px:IH)(cx b0:Nat)(xs:wy RU)(W6:H7)(pre:wy (L8 xs))(W:H7):Prop:=W.1[b0+1]?=Vv (Sx #[Bm Sj 0,Bm Sj (hvN r (pre.map (·.1))),Bm Sj r.Gc] 86 (0,0))/\W.1[b0]?=Vv (Sx (Taf g a r xs.length px cx) 78 (0,0))/\Below b0 W6 W/\W6.1.size<=W.1.size/\pre.length<=(iU xs).length
def RfI.own{a:iX}{b0:Nat}(a5:W6.1.size=b0+5):OwnFrom W6.1.size (RfI g a r px cx b0 xs W6):=by
 rintro pre W W' row ⟨h1,h2,h3,h4,h5⟩ hg hr;exact⟨xu hg hr h1,xu hg hr h2,h3.grown hg (by have:=h3.size;omega) (fun k e=>by have:=(hr k e).1;omega),cA h4 hg.size,h5⟩
def Ng(h:r.Gi*r.Gh=1):LA r=if r.Gg=1 then 1 else 0:=by
 unfold LA;rw[bh WQ]
def Oq(g:af)(a:iX)(r:aY)(px:IH)(cx b0:Nat)(xs:wy RU)(W6:H7)(aR:W6.1.size=b0+5)(hq:A7 r)(aS:r.Gi*r.Gh=1)(hx:Hw (Wq g.Gb) xs)(bs:xs.length<=cx/\cx<=9223372036854775807)
  (hr:ug b0 W6 px xs)
  (bz:W6.1[b0+4]?=Vv (Sx (Taf g a r xs.length px cx) 78 (0,0))) (bC:W6.1[b0]?=Vv (Sx (Taf g a r xs.length px cx) 78 (0,0))) (bD:W6.1[b0+1]?=Vv (Sx #[Bm Sj 0,Bm Sj 0,Bm Sj r.Gc] 86 (0,0)))
  (HK:Hid (∀(D:Nat) (W:H7),W.1[b0+1]?=Vv (Sx #[Bm Sj 0,Bm Sj (hvN r (iU xs)),Bm Sj r.Gc] 86 (0,0))->W.1[b0]?=Vv (Sx (Taf g a r xs.length px cx) 78 (0,0))->Below b0 W6 W->W6.1.size<=W.1.size->W6.1.size<=D->W.1[D]?=Vv (.deferred (Vv []))->Q .normal ⟨#[c0,c1,c2,c3,c4,c5,SL (Vv b0),c7,SL (Vv (XM (b0+1) 0)),c9,c10,ZS,ao,Sf,TO,RK,RW,Rr,SO,Se,St,W0,ZD,Wg,Wr,To,UP,aE,ab,.func (.func 96) #[] #[SL (Vv (XM (b0+4) 0))],da,dj,dq,fs,gE,ff,fb,fa,mT,me,ph,qe,qk,mu,mw,mx,nF,pr,o4,oE,oR,oS,pe,qt,qv,rl,rm,sE,sa,sd,yk,zd,zp,bV,ca,cb,ce,am,an,b7,b8,ba,be,bf,bn,bo,br,bt,bu,bA,bB,bL,cp,cw,cy,cB,d8,db,ds,e6,e8,e9,ea,ch,ci,cn,co,eb],[{ target:=.collected D,args:=#[] }]⟩ W)) :
  (MW Tryz.f27).wp prog Q ⟨#[c0,c1,c2,c3,c4,c5,SL (Vv b0),c7,SL (Vv (XM (b0+1) 0)),c9,c10,ZS,ao,Sf,TO,RK,RW,Rr,SO,Se,St,W0,ZD,Wg,Wr,To,UP,aE,ab,.func (.func 96) #[] #[SL (Vv (XM (b0+4) 0))],da,dj,dq,fs,gE,ff,fb,fa,mT,me,ph,qe,qk,mu,mw,mx,nF,pr,o4,oE,oR,oS,pe,qt,qv,rl,rm,sE,sa,sd,yk,zd,zp,bV,ca,cb,ce,am,an,b7,b8,ba,be,bf,bn,bo,br,bt,bu,bA,bB,bL,cp,cw,cy,cB,d8,db,ds,e6,e8,e9,ea,ch,ci,cn,co,eb],[]⟩ W6:=by
 conv=>arg 2;whnf
 refine(wpIn_wide (n:=3)).1 ?_;have bG:=hx.n8;have vh:=hx.len;refine wpIn_rangeFunc_ownH (F:=Fence.wide) lX WQ (gf:=96) (lb:=#[SL (Vv (XM (b0+4) 0))]) lX trivial (enters_of func96 Yp lX)
  (Bo (3-1) b0 (b0+4) WQ W6 px cx xs (aZ bz 16 _ lX) bs WQ WQ hr WQ (fun x bE=>by have:=hx.x1 x bE;omega))
  Below.trans (fun W l o o' hl h h1 h2=>belowK_b (w:=W6) WQ W l o o' hl h h1 h2) (bj _ _) (fun _=>rfl)
  (RfI g a r px cx b0 xs W6)
  (fun _ _ _=>False) ?own (fun _ _ _ _ _ h _ _=>h) ?init
  (fun x a' W=>∃(Br:Nat) (a9 ag ah ai aj ak au av ay az aA aB aC aD aF aG aH aI aJ aK aL aM aN aO aP aQ:zY),W.1[Br]?=Vv (Sx #[Bm Sj x.1.2.1,Bm Sj x.1.2.2] 49 (0,0))/\W6.1.size<=Br/\a'=⟨#[c0,c1,c2,c3,c4,c5,SL (Vv b0),c7,SL (Vv (XM (b0+1) 0)),c9,Bm Sj (x.1.1:Int),SL (Vv Br),ao,Sf,TO,RK,RW,Rr,SO,Se,St,W0,ZD,Wg,Wr,To,UP,aE,ab,.func (.func 96) #[] #[SL (Vv (XM (b0+4) 0))],Bm Sj (x.1.1:Int),Tk #[Bm Sj x.1.2.1,Bm Sj x.1.2.2],a9,ag,ah,ai,aj,ak,au,av,ay,az,aA,aB,aC,aD,aF,aG,aH,aI,aJ,aK,aL,aM,aN,aO,aP,aQ,sa,sd,yk,zd,zp,bV,ca,cb,ce,am,an,b7,b8,ba,be,bf,bn,bo,br,bt,bu,bA,bB,bL,cp,cw,cy,cB,d8,db,ds,e6,e8,e9,ea,ch,ci,cn,co,eb],[]⟩) ?ax ?assign ?body ?done ?stop
 case own=>exact RfI.own aR
 case init=>exact⟨by rw[show hvN r (([]:wy (L8 xs)).map (·.1))=0 from by unfold hvN;split<;>rfl];exact bD,bC,bj _ _,bk _,cg _⟩
 case ax =>
  rintro x a' _ W W' row ⟨Br,a9,ag,ah,ai,aj,ak,au,av,ay,az,aA,aB,aC,aD,aF,aG,aH,aI,aJ,aK,aL,aM,aN,aO,aP,aQ,h1,h2,h3⟩ hg hr;exact⟨Br,a9,ag,ah,ai,aj,ak,au,av,ay,az,aA,aB,aC,aD,aF,aG,aH,aI,aJ,aK,aL,aM,aN,aO,aP,aQ,xu hg hr h1,h2,h3⟩
 case assign =>
  rintro l pre x W K ⟨h1,h2,h3,h4,h5⟩ hK;have HI:=aa (⟨h1,h2,h3,h5⟩:_/\_/\_/\_);clear h1 h2 h3 h5;have HK:=aa hK;clear hK;simp only[OI,List.zip_toArray,List.zip_cons_cons,List.zip_nil_right,List.foldl_toArray,cF,cq,xT,List.set_cons_succ,List.set_cons_zero];gi_wp2
  obtain⟨h1,h2,h3,h5⟩:=HI.o;have PX:=ae W (Sx #[Bm Sj x.1.2.1,Bm Sj x.1.2.2] 49);refine HK.o _ _ ((KeepsOthers.alloc _ _).from _) (PX.mono WQ) ⟨(PX.block _ (aq h1)).trans h1,(PX.block _ (aq h2)).trans h2,h3.trans (PX.mono WQ),cA h4 PX.size,h5⟩ ⟨W.1.size,_,_,_,_,_,_,_,_,_,_,_,_,_,_,_,_,_,_,_,_,_,_,_,_,_,_,b9 W _,h4,rfl⟩
 case body =>
  rintro lr pre x a' W bH _ ⟨h1,h2,h3,h4,h5⟩ ⟨Br,a9,ag,ah,ai,aj,ak,au,av,ay,az,aA,aB,aC,aD,aF,aG,aH,aI,aJ,aK,aL,aM,aN,aO,aP,aQ,k1,k2,rfl⟩ hlt;have tL:=aZ h2;have t0:=IE tL;have aV:=tL 12 _ lX;have aW:=tL 13 _ lX;have aX:=tL 14 _ lX;have bd:=tL 15 _ lX;have bg:=tL 16 _ lX;clear tL;obtain⟨bI,hy2,bJ,bK⟩:=hx.yy x.1 x.2;have TW:(pre++[x]).length<=(iU xs).length:=by rw[cD,A4];exact hlt
  have bi:=hx.sum pre WQ;have bl:=Nq (pre.map (·.1)) 0 WQ WQ (fun y hy=>by
   obtain⟨z,-,rfl⟩:=As.1 hy;have:=hx.yy z.1 z.2;omega)
  have bm:∀(W1:H7) (y:zY),Below W.1.size W W1->y=Bm Sj (hvN r ((pre++[x]).map (·.1)))->KeepsFrom W6.1.size W (W1.setCell (XM (b0+1) 1) y)/\Below b0 W (W1.setCell (XM (b0+1) 1) y)/\RfI g a r px cx b0 xs W6 (pre++[x]) (W1.setCell (XM (b0+1) 1) y):=fun W1 y hb he=>by
   have hbl:=aq h1;have ks:∀k,k≠b0+1->(W1.setCell (XM (b0+1) 1) y).1[k]?=W1.1[k]?:=fun k e=>bw _ _ _ _ e;have hs:(W1.setCell (XM (b0+1) 1) y).1.size=W1.1.size:=by simp[AF]
   have PD:Below b0 W (W1.setCell (XM (b0+1) 1) y):=(hb.mono WQ).setCell (p:=⟨b0+1,1,VX⟩) (by show b0<=b0+1;omega) y;refine⟨⟨by rw[hs];exact hb.size,fun k o hk bp hk2=>(ks k WQ).trans ((hb.block k (ku bp)).trans bp)⟩,PD,?_,(ks _ WQ).trans ((hb.block _ WQ).trans h2),h3.trans PD,by rw[hs];exact cA h4 hb.size,TW⟩;rw[<- he];exact block_setCell (cs:=#[_,_,_]) (i:=1) y ((hb.block _ hbl).trans h1)
  have Zw:=aa bm;have HH:=aa (⟨h1,k1⟩:_/\_);have a7:=aa (Mg g a r (FG px xs.length cx) W hq);rw[Ng aS]at a7;have bF:=aa (⟨bi,bl⟩:_/\_);clear h1 h2 h3 h5 k1 TW bm aR bi bl aS vh;by_cases hp:r.Gg=1
  ·rw[aw hp]at a7;have hv:hvN r (pre.map (·.1))=Nz (pre.map (·.1)):=aw hp;have a8:hvN r ((pre++[x]).map (·.1))=max (Nz (pre.map (·.1))) x.1.2.2:=by unfold hvN;rw[aw hp,gl,Lo,NM]
   have Vn:=aa a8;rw[hv]at HH;clear hp hv a8;gi_wp2_with fail
   clear t0 aV aW aX bd bg;refine⟨trivial,CallsIn.inRound lr (callsIn_wide.2 (a7.o.mono ?_))⟩;rintro e W1 ⟨rfl,a5⟩;have q1:=(a5.block _ (aq HH.o.1)).trans HH.o.1;have x1:=aZ q1 1 _ lX;have xf:=wR q1;have r1:=aZ ((a5.block _ (aq HH.o.2)).trans HH.o.2) 1 _ lX;have cU:=aa a5;clear q1 a5 a7 HH;gi_wp2
   exact Zw.o _ _ cU.o (by rw[Vn.o])
  rw[bh hp]at a7;have hv:hvN r (pre.map (·.1))=jU (pre.map (·.1)):=bh hp;have a8:hvN r ((pre++[x]).map (·.1))=jU (pre.map (·.1))+x.1.2.2:=by unfold hvN;rw[bh hp,gl,Lo,FZ]
  have Vn:=aa a8;rw[hv]at HH;have hw:IntKind.i64.wrap (jU (pre.map (·.1))+x.1.2.2)=jU (pre.map (·.1))+x.1.2.2:=dy _ (by have:=bF.o.1;omega);clear hp hv a8;gi_wp2_with fail
  clear t0 aV aW aX bd bg;refine⟨trivial,CallsIn.inRound lr (callsIn_wide.2 (a7.o.mono ?_))⟩;rintro e W1 ⟨rfl,a5⟩;have q1:=(a5.block _ (aq HH.o.1)).trans HH.o.1;have x1:=aZ q1 1 _ lX;have xf:=wR q1;have r1:=aZ ((a5.block _ (aq HH.o.2)).trans HH.o.2) 1 _ lX;have cU:=aa a5;clear q1 a5 a7 HH;gi_wp2
  exact Zw.o _ _ cU.o (by rw[Vn.o])
 case done =>
  rintro D ys W hD rfl ⟨h1,h2,h3,h4,h5⟩ hK;rw[Jw]at h1;exact HK.o D W h1 h2 h3 h4 hD hK
 case stop =>
  rintro D c pre W _ _ h _;exact h.elim
end
section
attribute [local go_sem] Oper.semAt_some run_makeMap_plain
def NT(r:aY)(l:wy (Nat × H5)):Int × Int × H5:=if r.Gc<=hvN r l then(0,0,0,12) else(if r.Gg=1 then 2 else 1,hvN r l,r.Gc,0)
def TaT(x0:Int)(x1:Int)(x2:Int):Tab #[Bm Sj x0,Bm Sj x1,Bm Sj x2]:=⟨⟩
def Pw(g:af)(r:aY)(w:H7)(e:Ending)(w':H7):Prop :=
 ∃xs,tK g r xs/\xs.length=Wq g.Gb/\e=S6 (Vj #[Tk (TaT ((NT r (iU xs)).1) ((NT r (iU xs)).2.1) ((NT r (iU xs)).2.2.1)),Bm Sj (NT r (iU xs)).2.2.2])/\Below w.1.size w w'
def GZ:Code->Bool
 |.rangeFunc _ _ _ _=>VR
 |.seq a b=>GZ a||GZ b
 |.block _ c=>GZ c
 |.loop c=>GZ c
 |.scope c=>GZ c
 |.cond _ a b=>GZ a||GZ b
 |_=>VN
def Bz:Code->Option Code
 |.seq a b=>if GZ a then(match Bz a with
   |some c=>Vv (.seq c b)
   |none=>Vv b) else Bz b
 |.block _ c=>Bz c
 |.scope c=>Bz c
 |_=>VX
noncomputable def OG(f:Func):Code:=((f.body.bind Bz).getD .skip)
def TaM :Tab #[Bm Sj 0,Bm Sj 0,Bm Sj 0]:=⟨⟩
def TeF(h:gt:=by simp[results,Tryz.results27,go_sem,a0,a1,a2]):=h
def Tbe(h:gt:=by
 rw[aw hc]at Zw;have hd:V7 (hv ≥ r.Gc)=VR:=eA hc;clear hc;go_wp2;obtain⟨f1,f2,f3⟩:=Zw.o (0) (0) (0) (12) _ lX;refine⟨XN,.inl ⟨_,_,rfl,run_takeDeferred f3,?_⟩⟩;have a0:=aZ f2 0 _ lX;have a1:=aZ f2 1 _ lX;have a2:=aZ f2 2 _ lX;exact⟨Vj #[Tk #[Bm Sj (0),Bm Sj (0),Bm Sj (0)],Bm Sj (12)],TeF,f1⟩):=h
def OU{R:Ending->H7->Prop}{c1 c3 c5 c9 ZS ao Sf TO RK RW Rr SO Se St W0 ZD Wg Wr To UP aE ab eS da dj dq fs gE ff fb fa mT me ph qe qk mu mw mx nF pr o4 oE oR oS pe qt qv rl rm sE sa sd yk zd zp bV ca cb ce am an b7 b8 ba be bf bn bo br bt bu bA bB bL d8:zY}(g:af)(a:iX)(r:aY)(px:IH)(cx:Nat)(xs:wy RU){b2 b6:Nat}(D:Nat)(W:H7){hv:Int}(hq:A7 r)(av:r.Gi*r.Gh=1)(ht:W.1[b6]?=Vv (Sx (Taf g a r xs.length px cx) 78 (0,0)))(hx:W.1[b6+1]?=Vv (Sx #[Bm Sj 0,hv,Bm Sj r.Gc] 86 (0,0)))(hr:W.1[b2]?=Vv (Sx TaM 86 (0,0)))(hD:W.1[D]?=Vv (.deferred (Vv [])))(hne:b2≠b6+1)(ah:D≠b2)(ay:D≠b6+1)
  (HK:Hid (∀(WF:H7) (kk hh nn ee:Int),(kk,hh,nn,ee)=(if r.Gc<=hv then(0,0,0,12) else(if r.Gg=1 then 2 else 1,hv,r.Gc,0))->WF.1[b2]?=Vv (Sx (TaT kk hh nn) 86 (0,0))->(∀B,B<=b2->B<=b6+1->B<=D->B<=W.1.size->Below B W WF)->R (S6 (Vj #[Tk (TaT kk hh nn),Bm Sj ee])) WF)) :
  (OG Tryz.f27).wp prog (bodyPostM Fence.wide 3 prog Tryz.f27 R) ⟨#[c0,c1,c2,c3,SL (Vv b2),c5,SL (Vv b6),c7,SL (Vv (XM (b6+1) 0)),c9,c10,ZS,ao,Sf,TO,RK,RW,Rr,SO,Se,St,W0,ZD,Wg,Wr,To,UP,aE,ab,eS,da,dj,dq,fs,gE,ff,fb,fa,mT,me,ph,qe,qk,mu,mw,mx,nF,pr,o4,oE,oR,oS,pe,qt,qv,rl,rm,sE,sa,sd,yk,zd,zp,bV,ca,cb,ce,am,an,b7,b8,ba,be,bf,bn,bo,br,bt,bu,bA,bB,bL,cp,cw,cy,cB,d8,db,ds,e6,e8,e9,ea,ch,ci,cn,co,eb],[{ target:=.collected D,args:=#[] }]⟩ W:=by
 conv=>arg 2;whnf
 have ak:=aa fun W=>Mg g a r (FG px xs.length cx) W hq;rw[Ng av]at ak;have az:=ku hD;have a8:=ae W (Sx #[Bm Sj 1,Bm Sj 2,Bm Sj 3] 112);have aA:=aa (b9 W (Sx #[Bm Sj 1,Bm Sj 2,Bm Sj 3] 112));have aB:=aa a8;replace hx:=aa hx;replace hr:=aa hr;replace hD:=aa hD;have tL:=aZ ((a8.block _ (aq ht)).trans ht);have t0:=IE tL;have aH:=tL 12 _ lX;have aI:=tL 13 _ lX;have aJ:=tL 14 _ lX;have aK:=tL 15 _ lX;have aL:=tL 16 _ lX;clear tL a8 ht av
 go_wp2_with fail;clear t0 aH aI aJ aK aL;refine(ak.o _).mono ?_;rintro e a5 ⟨rfl,a9⟩;have ai:=YS aB a9;have au:=Zl a9 aA;have a7:=Zl ai.o hx;have ag:=Zl ai.o hr;have aj:=aa ((ai.o.block _ az).trans hD.o);clear a9 aB aA hx hr hD ak;have aC:∀(kk hh nn ee:Int) (k0:zY),(kk,hh,nn,ee)=(if r.Gc<=hv then(0,0,0,12) else(if r.Gg=1 then 2 else 1,hv,r.Gc,0))->R (S6 (Vj #[Tk (TaT kk hh nn),Bm Sj ee])) (((((a5.setCell (XM (b6+1) 0) k0).setCell b2 (Bm Sj kk)).setCell (XM b2 1) (Bm Sj hh)).setCell (XM b2 2) (Bm Sj nn)).putObj D (.deferred VX)) /\
   (((((a5.setCell (XM (b6+1) 0) k0).setCell b2 (Bm Sj kk)).setCell (XM b2 1) (Bm Sj hh)).setCell (XM b2 2) (Bm Sj nn)).putObj D (.deferred VX)).1[b2]?=Vv (Sx (TaT kk hh nn) 86 (0,0)) /\
   ((((a5.setCell (XM (b6+1) 0) k0).setCell b2 (Bm Sj kk)).setCell (XM b2 1) (Bm Sj hh)).setCell (XM b2 2) (Bm Sj nn)).1[D]?=Vv (.deferred (Vv [])):=fun kk hh nn ee k0 he=>by
  have hk:((((a5.setCell (XM (b6+1) 0) k0).setCell b2 (Bm Sj kk)).setCell (XM b2 1) (Bm Sj hh)).setCell (XM b2 2) (Bm Sj nn)).1[D]?=Vv (.deferred (Vv [])):=(bw _ _ _ _ ah).trans ((bw _ _ _ _ ah).trans ((bw _ _ _ _ ah).trans ((bw _ _ _ _ ay).trans aj.o)));have hb:((((a5.setCell (XM (b6+1) 0) k0).setCell b2 (Bm Sj kk)).setCell (XM b2 1) (Bm Sj hh)).setCell (XM b2 2) (Bm Sj nn)).1[b2]?=Vv (Sx (TaT kk hh nn) 86 (0,0)):=block_setCell (cs:=#[_,_,_]) (i:=2) _ (block_setCell (cs:=#[_,_,_]) (i:=1) _ (block_setCell (cs:=#[_,_,_]) (i:=0) _ ((bw _ _ _ _ hne).trans ag.o)));have aD:(((((a5.setCell (XM (b6+1) 0) k0).setCell b2 (Bm Sj kk)).setCell (XM b2 1) (Bm Sj hh)).setCell (XM b2 2) (Bm Sj nn)).putObj D (.deferred VX)).1[b2]?=_:=((grownBy_putObj' _ D _).block _ (aq hb) (fun q=>by injection q with q;exact ah q.symm)).trans hb;refine⟨HK.o _ kk hh nn ee he aD fun B q1 q2 q3 q4=>?_,aD,hk⟩;have PD:Below B W ((((a5.setCell (XM (b6+1) 0) k0).setCell b2 (Bm Sj kk)).setCell (XM b2 1) (Bm Sj hh)).setCell (XM b2 2) (Bm Sj nn)) :=
   ((((ai.o.mono q4).setCell (p:=⟨b6+1,0,VX⟩) q2 _).setCell (p:=b2) q1 _).setCell (p:=⟨b2,1,VX⟩) q1 _).setCell (p:=⟨b2,2,VX⟩) q1 _
  exact PD.grown (grownBy_putObj' _ D _) (by have:=PD.size;omega) (fun k e=>by injection e with e;omega)
 have Zw:=aa aC;clear aC;have i0:=aZ au.o 0 _ lX;have i1:=aZ au.o 1 _ lX;have x0:=aZ a7.o 0 _ lX;have x1:=aZ a7.o 1 _ lX;have x2:=aZ a7.o 2 _ lX;have xf:=wR a7.o;have y0:=fun V:zY=>aZ (block_setCell (cs:=#[Bm Sj 0,hv,Bm Sj r.Gc]) (i:=0) V a7.o) 0 _ lX;have y1:=fun V:zY=>aZ (block_setCell (cs:=#[Bm Sj 0,hv,Bm Sj r.Gc]) (i:=0) V a7.o) 1 _ lX;have y2:=fun V:zY=>aZ (block_setCell (cs:=#[Bm Sj 0,hv,Bm Sj r.Gc]) (i:=0) V a7.o) 2 _ lX;have z0:=fun V:zY=>aZ ((bw a5 ⟨b6+1,0,VX⟩ V _ hne).trans ag.o) 0 _ lX;have z1:=fun V:zY=>aZ ((bw a5 ⟨b6+1,0,VX⟩ V _ hne).trans ag.o) 1 _ lX;have z2:=fun V:zY=>aZ ((bw a5 ⟨b6+1,0,VX⟩ V _ hne).trans ag.o) 2 _ lX;have zf:=fun(V:zY) (i:Nat)=>wR ((bw a5 ⟨b6+1,0,VX⟩ V _ hne).trans ag.o) i;clear a7 ag au aj ai az ah ay
 by_cases hp:r.Gg=1
 ·rw[aw hp]at Zw;rw[aw hp];clear hp;by_cases hc:r.Gc<=hv
  ·exact Tbe
  rw[bh hc]at Zw;have hd:V7 (hv ≥ r.Gc)=VN:=cN hc;clear hc;go_wp2;obtain⟨f1,f2,f3⟩:=Zw.o (2) (hv) (r.Gc) (0) _ lX;refine⟨XN,.inl ⟨_,_,rfl,run_takeDeferred f3,?_⟩⟩;have a0:=aZ f2 0 _ lX;have a1:=aZ f2 1 _ lX;have a2:=aZ f2 2 _ lX;exact⟨Vj #[Tk (TaT (2) (hv) (r.Gc)),Bm Sj (0)],TeF,f1⟩
 rw[bh hp]at Zw;rw[bh hp];clear hp;by_cases hc:r.Gc<=hv
 ·exact Tbe
 rw[bh hc]at Zw;have hd:V7 (hv ≥ r.Gc)=VN:=cN hc;clear hc;go_wp2;obtain⟨f1,f2,f3⟩:=Zw.o (1) (hv) (r.Gc) (0) _ lX;refine⟨XN,.inl ⟨_,_,rfl,run_takeDeferred f3,?_⟩⟩;have a0:=aZ f2 0 _ lX;have a1:=aZ f2 1 _ lX;have a2:=aZ f2 2 _ lX;exact⟨Vj #[Tk (TaT (1) (hv) (r.Gc)),Bm Sj (0)],TeF,f1⟩
def Na{ok:LN}(g:af)(a:iX)(r:aY)(w:H7)(hg:dN ok w g a)(aI:GOk g)(hr:dK r)(hS:AW w)(Mu:kP g r=0)(aJ:r.Gi*r.Gh=1):Calls prog 27 #[Tk (Zg g a),Tk (Tam r)] w (Pw g r w):=by
 refine callsIn_wide (n:=3) |>.1 ?_;refine callsIn_of_wp_marks func27 lX trivial ?_ lX;simp only[ntmps27,List.size_toArray,cS,ux,Nat.reduceAdd,Nat.reduceSub,Array.replicate_succ,Array.replicate_zero,List.push_toArray,List.append_toArray,GO,IT];refine wpIn_wide.2 ?_;have hA1:=ae w (Sx (Zg g a) 31);have US:=b9 w (Sx (Zg g a) 31);generalize RE:w.alloc (Sx (Zg g a) 31)=W1 at *;have hA2:=ae W1 (Sx (Tam r) 34);have sC:=b9 W1 (Sx (Tam r) 34);have R0:W1.1.size=w.1.size+1:=by rw[<- RE];exact cW ..
 generalize aq:W1.alloc (Sx (Tam r) 34)=W2 at *;have hA3:=ae W2 (Sx TaM 86);have aK:=b9 W2 (Sx TaM 86);have RC:W2.1.size=w.1.size+2:=by rw[<- aq,cW,R0]
 generalize au:W2.alloc (Sx TaM 86)=W3 at *;have bl:W3.1.size=w.1.size+3:=by rw[<- au,cW,RC]
 have HB:=aa (hA1.trans ((hA2.mono WQ).trans (hA3.mono WQ)));have aL:=aa ((hA3.block _ WQ).trans ((hA2.block _ WQ).trans US));have Lz:=aa ((hA3.block _ WQ).trans sC);have HR1:=aa aK;rw[R0]at Lz;rw[RC]at HR1;clear hA1 hA2 hA3 US sC aK;have gL:=aZ aL.o;have g0:=xr gL;have qL:=aZ Lz.o;have q0:=se qL;clear gL qL;have HP:=aa (IJ g a r W3 (hg.mv (Mv.of HB.o)) aI hr (hS.below HB.o));have Zi:=aa hg.Gb;clear hg hS;have HPE:=aa Mu;have hq:=A7.of Mu;have aM:(mchk g).2=0:=by
  unfold kP at Mu;split at Mu
  ·assumption
  rename_i hm;exact absurd Mu hm
 have aU:=aa (Fb aI.gi aM);clear aM Mu;go_wp2_with fail;clear g0 q0
 try simp only[RE,aq,au]
 clear RE aq au;refine HP.o.mono ?_;clear HP;intro e w8 hp;obtain⟨xv,xs,rfl,av,Zs,vh,ak⟩:=hp;rw[HPE.o];rw[aw HPE.o]at vh;have Ix:=aa (HB.o.trans (ak.mono WQ));obtain⟨px,cx,rfl,aV,aW⟩:=av.cap;have PW:=aa av;have aN:=aa Zs;have HXL:=aa vh;have yi:=aa (tK.runs aU.o aN.o HXL.o);have aX:=aa ((ak.block _ WQ).trans HR1.o);have bm:w.1.size+3<=w8.1.size:=by have:=ak.size;omega
 clear ak av Zs vh aL Lz HB HR1;have aO:=ae w8 (Sx (Taf g a r xs.length px cx) 78);have am:=b9 w8 (Sx (Taf g a r xs.length px cx) 78);generalize b8:w8.alloc (Sx (Taf g a r xs.length px cx) 78)=W9 at *;have aP:W9.1.size=w8.1.size+1:=by rw[<- b8];exact cW ..
 have ab:=ae W9 (Sx #[Bm Sj 0,Bm Sj 0,Bm Sj r.Gc] 86);have ag:=b9 W9 (Sx #[Bm Sj 0,Bm Sj 0,Bm Sj r.Gc] 86);generalize ay:W9.alloc (Sx #[Bm Sj 0,Bm Sj 0,Bm Sj r.Gc] 86)=W10 at *;have az:W10.1.size=w8.1.size+2:=by rw[<- ay,cW,aP]
 have a5:=ae W10 (.map #[] 0);generalize aA:W10.alloc (.map #[] 0)=W11 at *;have aj:W11.1.size=w8.1.size+3:=by rw[<- aA,cW,az]
 have a7:=ae W11 (Sx #[.map VX] 110);have ah:=b9 W11 (Sx #[.map VX] 110);generalize aB:W11.alloc (Sx #[.map VX] 110)=W12 at *;have aC:W12.1.size=w8.1.size+4:=by rw[<- aB,cW,aj]
 rw[aP]at ag;rw[aj]at ah;have aQ:=aa (aO.trans ((ab.mono WQ).trans ((a5.mono WQ).trans (a7.mono WQ))));have aR:=aa ((a7.block _ WQ).trans ((a5.block _ WQ).trans ((ab.block _ WQ).trans am)));have aS:=aa ((a7.block _ WQ).trans ((a5.block _ WQ).trans ag));have Ta:=aa ah;have tL:=aZ am;have aD:=aZ am 11 _ lX;have m0:=aZ Ta.o 0 _ lX;have mf:=wR Ta.o 0;clear aO ab a5 a7 am ag ah tL;go_upto_region 6 with(fail);have XO:∀k,k≠w8.1.size+3->(W12.setCell (XM (w8.1.size+3) 0) (.map (Vv (w8.1.size+2)))).1[k]?=W12.1[k]?:=fun k e=>bw _ _ _ _ e;have aE:=aa ((XO _ WQ).trans aR.o);have aT:=aa ((XO _ WQ).trans aS.o);have WX:=aa (aQ.o.setCell (p:=⟨w8.1.size+3,0,VX⟩) (by show w8.1.size<=w8.1.size+3;omega) (.map (Vv (w8.1.size+2))));have ai:(W12.setCell (XM (w8.1.size+3) 0) (.map (Vv (w8.1.size+2)))).1.size=w8.1.size+4:=by simp[AF,aC]
 clear XO aD m0 mf aR aS Ta aQ;generalize aF:AF W12 _ _=W13 at *;clear aF;have tL:=aZ aE.o;obtain⟨t0,t1,t2,t3,t4,t5,t6,t7,t8,t9,ba,aD⟩:=IE tL;have bd:=tL 12 _ lX;have be:=tL 13 _ lX;have bf:=tL 14 _ lX;have bg:=tL 15 _ lX;have bh:=tL 16 _ lX;clear tL;go_wp2_with fail;clear t0 t1 t2 t3 t4 t5 t6 t7 t8 t9 ba aD bd be bf bg bh;refine(Mf g a r W13).mono ?_;rintro e bp ⟨rfl,rfl⟩;have a8:=ae W13 (Sx (Taf g a r xs.length px cx) 78);have a9:=b9 W13 (Sx (Taf g a r xs.length px cx) 78);have aG:(W13.alloc (Sx (Taf g a r xs.length px cx) 78)).1.size=w8.1.size+5:=by rw[cW,ai]
 rw[ai]at a9;have ao:=aa (WX.o.trans (a8.mono WQ));have bi:=aa ((a8.block _ WQ).trans aE.o);have bj:=aa ((a8.block _ WQ).trans aT.o);replace a9:=aa a9;clear a8 aE aT WX;rw[ai];generalize aH:AI W13 _=W14 at *;clear aH;go_wp2;refine Oq g a r px cx w8.1.size xs W14 aG hq aJ yi.o ⟨aV,aW⟩ ((PW.o.runs (bk _)).below ao.o) a9.o bi.o bj.o (aa ?_);intro D W h1 h2 h3 h4 h5 hK;rename_i K0 hK0;refine hK0 _ _ ?_;refine OU g a r px cx xs D W hq aJ h2 h1 ((h3.block _ WQ).trans ((ao.o.block _ WQ).trans aX.o)) hK WQ WQ WQ (aa ?_);intro WF kk hh nn ee he hbl PD;have hb:=PD w.1.size WQ WQ WQ (by have:=ao.o.size;omega);exact⟨xs,aN.o,HXL.o,by unfold NT;rw[<- he],Ix.o.trans ((ao.o.mono WQ).trans ((h3.mono WQ).trans hb))⟩
end
section
variable {α:Type}{F9:wy ay}{l0 l:QN}{x y:H6}{i k B:Nat}{g:af}{c1 c3 c5 c6 c9 ZS ao Sf TO RK RW Rr SO Se St W0 ZD Wg Wr To UP aE ab eS da dj dq fs gE ff fb fa mT me ph qe qk mu mw mx nF pr o4 oE oR oS pe qt qv rl rm sE sa sd yk zd zp bV ca cb ce am an b7 b8 ba be bf bn bo br bt bu bA bB bL:zY}{w:H7}
def Ni(b:Nat):iX:=⟨VX,0,Vv ⟨b+1,0,VX⟩,1,Vv ⟨b+5,0,VX⟩,1,VX,0⟩
def Ox(w:H7)(e:Ending)(w':H7):Prop:=e=S6 (Tk #[By ⟨#[118,103]⟩,Bm U8 0,Bm Sj 0,Bm Sj 1,Bm Sj 0,FG VX 0 0,FG (Vv (XM (w.1.size+1) 0)) 1 1,FG (Vv (XM (w.1.size+5) 0)) 1 1,FG VX 0 0])/\dN (fun _=>True) w' pK (Ni w.1.size)/\Below w.1.size w w'
def TaV(x0:IH):Tab #[By ⟨#[97]⟩,Bm U8 0,Ft VN,Ft VN,FG VX 0 0,FG x0 1 1]:=⟨⟩
def TaH(x0:IH):Tab #[Bm Sj 0,Bm Sj 3,Bm Sj 1,FG x0 1 1,Bm Sj 0,FG VX 0 0,By ⟨#[]⟩,By ⟨#[]⟩,Bm Sj 0,Bm Sj 0,Bm Sj 0]:=⟨⟩
def TaQ :Tab #[By ⟨#[112,118,48]⟩,Bm U8 1,Bm Sj 0,Bm Sj 10,Ft VN,Ft VN,FG VX 0 0]:=⟨⟩
theorem LV(w:H7):Calls prog 26 #[] w (Ox w):=by
 go_enter func26,ntmps26;have hA1:=ae w (Sx Tar 31);have US:=b9 w (Sx Tar 31);generalize RE:w.alloc (Sx Tar 31)=W1 at *;have R0:W1.1.size=w.1.size+1:=by rw[<- RE,cW]
 have hA2:=ae W1 (Sx TaQ 69);have sC:=b9 W1 (Sx TaQ 69);generalize aj:W1.alloc (Sx TaQ 69)=W2 at *;have RC:W2.1.size=w.1.size+2:=by rw[<- aj,cW,R0]
 have hA3:=ae W2 (Sx Tar 31);have a5:=b9 W2 (Sx Tar 31);generalize ak:W2.alloc (Sx Tar 31)=W3 at *;have a8:W3.1.size=w.1.size+3:=by rw[<- ak,cW,RC]
 rw[R0]at sC;rw[RC]at a5;have a9:=hA1.trans ((hA2.mono WQ).trans (hA3.mono WQ));have q1:=(hA3.block _ WQ).trans ((hA2.block _ WQ).trans US);have q2:=(hA3.block _ WQ).trans sC;have z0:=aZ a5 0 _ lX;have z1:=aZ a5 1 _ lX;have z2:=aZ a5 2 _ lX;have z3:=aZ a5 3 _ lX;have z4:=aZ a5 4 _ lX;have z5:=aZ a5 5 _ lX;have z6:=aZ a5 6 _ lX;have z7:=aZ a5 7 _ lX;have z8:=aZ a5 8 _ lX;have zf:=wR a5;have HQ:=aa (⟨q1,q2,a5,a9⟩:_/\_/\_/\_);clear hA1 hA2 hA3 US sC a5 q1 q2 a9;go_upto_region 2 with(fail);clear RE aj ak;clear z0 z1 z2 z3 z4 z5 z6 z7 z8 zf;obtain⟨q1,q2,a5,a9⟩:=HQ.o;have r3:(((((((((W3.setCell (XM (w.1.size+2) 0) (By ⟨#[118,103]⟩)).setCell (XM (w.1.size+2) 1) (Bm U8 0)).setCell (XM (w.1.size+2) 2) (Bm Sj 0)).setCell (XM (w.1.size+2) 3) (Bm Sj 1)).setCell (XM (w.1.size+2) 4) (Bm Sj 0)).setCell (XM (w.1.size+2) 5) (FG VX 0 0)).setCell (XM (w.1.size+2) 6) (FG (Vv (XM (w.1.size+1) 0)) 1 1)).setCell (XM (w.1.size+2) 7) (FG VX 0 0)).setCell (XM (w.1.size+2) 8) (FG VX 0 0)).1[w.1.size+2]?=Vv (Sx #[By ⟨#[118,103]⟩,Bm U8 0,Bm Sj 0,Bm Sj 1,Bm Sj 0,FG VX 0 0,FG (Vv (XM (w.1.size+1) 0)) 1 1,FG VX 0 0,FG VX 0 0] 31 (0,0)):=block_setCell (cs:=#[_,_,_,_,_,_,_,_,_]) (i:=8) _ (block_setCell (cs:=#[_,_,_,_,_,_,_,_,_]) (i:=7) _ (block_setCell (cs:=#[_,_,_,_,_,_,_,_,_]) (i:=6) _ (block_setCell (cs:=#[_,_,_,_,_,_,_,_,_]) (i:=5) _ (block_setCell (cs:=#[_,_,_,_,_,_,_,_,_]) (i:=4) _ (block_setCell (cs:=#[_,_,_,_,_,_,_,_,_]) (i:=3) _ (block_setCell (cs:=#[_,_,_,_,_,_,_,_,_]) (i:=2) _ (block_setCell (cs:=#[_,_,_,_,_,_,_,_,_]) (i:=1) _ (block_setCell (cs:=#[_,_,_,_,_,_,_,_,_]) (i:=0) _ (a5)))))))));have ks:∀k,k≠w.1.size+2->(((((((((W3.setCell (XM (w.1.size+2) 0) (By ⟨#[118,103]⟩)).setCell (XM (w.1.size+2) 1) (Bm U8 0)).setCell (XM (w.1.size+2) 2) (Bm Sj 0)).setCell (XM (w.1.size+2) 3) (Bm Sj 1)).setCell (XM (w.1.size+2) 4) (Bm Sj 0)).setCell (XM (w.1.size+2) 5) (FG VX 0 0)).setCell (XM (w.1.size+2) 6) (FG (Vv (XM (w.1.size+1) 0)) 1 1)).setCell (XM (w.1.size+2) 7) (FG VX 0 0)).setCell (XM (w.1.size+2) 8) (FG VX 0 0)).1[k]?=W3.1[k]?:=fun k e=>(bw _ _ _ _ e).trans ((bw _ _ _ _ e).trans ((bw _ _ _ _ e).trans ((bw _ _ _ _ e).trans ((bw _ _ _ _ e).trans ((bw _ _ _ _ e).trans ((bw _ _ _ _ e).trans ((bw _ _ _ _ e).trans ((bw _ _ _ _ e).trans (rfl)))))))));have Uc:Below w.1.size w (((((((((W3.setCell (XM (w.1.size+2) 0) (By ⟨#[118,103]⟩)).setCell (XM (w.1.size+2) 1) (Bm U8 0)).setCell (XM (w.1.size+2) 2) (Bm Sj 0)).setCell (XM (w.1.size+2) 3) (Bm Sj 1)).setCell (XM (w.1.size+2) 4) (Bm Sj 0)).setCell (XM (w.1.size+2) 5) (FG VX 0 0)).setCell (XM (w.1.size+2) 6) (FG (Vv (XM (w.1.size+1) 0)) 1 1)).setCell (XM (w.1.size+2) 7) (FG VX 0 0)).setCell (XM (w.1.size+2) 8) (FG VX 0 0)):=(((((((((a9).setCell (p:=⟨w.1.size+2,0,VX⟩) Tdq _).setCell (p:=⟨w.1.size+2,1,VX⟩) Tdq _).setCell (p:=⟨w.1.size+2,2,VX⟩) Tdq _).setCell (p:=⟨w.1.size+2,3,VX⟩) Tdq _).setCell (p:=⟨w.1.size+2,4,VX⟩) Tdq _).setCell (p:=⟨w.1.size+2,5,VX⟩) Tdq _).setCell (p:=⟨w.1.size+2,6,VX⟩) Tdq _).setCell (p:=⟨w.1.size+2,7,VX⟩) Tdq _).setCell (p:=⟨w.1.size+2,8,VX⟩) Tdq _;have am:(((((((((W3.setCell (XM (w.1.size+2) 0) (By ⟨#[118,103]⟩)).setCell (XM (w.1.size+2) 1) (Bm U8 0)).setCell (XM (w.1.size+2) 2) (Bm Sj 0)).setCell (XM (w.1.size+2) 3) (Bm Sj 1)).setCell (XM (w.1.size+2) 4) (Bm Sj 0)).setCell (XM (w.1.size+2) 5) (FG VX 0 0)).setCell (XM (w.1.size+2) 6) (FG (Vv (XM (w.1.size+1) 0)) 1 1)).setCell (XM (w.1.size+2) 7) (FG VX 0 0)).setCell (XM (w.1.size+2) 8) (FG VX 0 0)).1.size=w.1.size+3:=by simp[AF,a8]
 have r1:=(ks _ WQ).trans q1;have r2:=(ks _ WQ).trans q2;clear ks q1 q2 a5 a9 HQ;generalize hV:AF (AF (AF (AF (AF (AF (AF (AF (AF W3 _ _) _ _) _ _) _ _) _ _) _ _) _ _) _ _) _ _=V3 at *;clear hV R0 RC a8;have a8:=am;clear am;have ao:=ae V3 (Sx #[VN,By ⟨#[112,118,48]⟩,Bm Sj 2] 53);have af:=b9 V3 (Sx #[VN,By ⟨#[112,118,48]⟩,Bm Sj 2] 53);generalize aq:V3.alloc (Sx #[VN,By ⟨#[112,118,48]⟩,Bm Sj 2] 53)=W4 at *;have au:W4.1.size=w.1.size+4:=by rw[<- aq,cW,a8]
 have ag:=ae W4 (Sx (TaH (Vv ⟨w.1.size+3,0,VX⟩)) 55);have ah:=b9 W4 (Sx (TaH (Vv ⟨w.1.size+3,0,VX⟩)) 55);generalize av:W4.alloc (Sx (TaH (Vv ⟨w.1.size+3,0,VX⟩)) 55)=W5 at *;have aw:W5.1.size=w.1.size+5:=by rw[<- av,cW,au]
 have ab:=ae W5 (Sx (TaV (Vv ⟨w.1.size+4,0,VX⟩)) 46);have ai:=b9 W5 (Sx (TaV (Vv ⟨w.1.size+4,0,VX⟩)) 46);generalize ay:W5.alloc (Sx (TaV (Vv ⟨w.1.size+4,0,VX⟩)) 46)=W6 at *;have aA:W6.1.size=w.1.size+6:=by rw[<- ay,cW,aw]
 rw[a8]at af;rw[au]at ah;rw[aw]at ai;have a7:=(ao.mono (B':=w.1.size+3) WQ).trans ((ag.mono WQ).trans (ab.mono WQ));have q1:=(a7.block _ WQ).trans r1;have q2:=(a7.block _ WQ).trans r2;have q3:=(a7.block _ WQ).trans r3;have q4:=(ab.block _ WQ).trans ((ag.block _ WQ).trans af);have q5:=(ab.block _ WQ).trans ah;have c7:=aZ q3 7 _ lX;have cf:=wR q3;have Tq:=aa (Uc.trans (a7.mono WQ));have HQ:=aa (⟨q1,q2,q3,q4,q5,ai⟩:_/\_/\_/\_/\_/\_);clear ao ag ab af ah ai q1 q2 q3 q4 q5 a7 Uc r1 r2 r3;go_upto_region 3 with(fail);clear aq av ay;obtain⟨q1,q2,q3,q4,q5,q6⟩:=HQ.o;have ks:∀(u:zY) k,k≠w.1.size+2->(W6.setCell (XM (w.1.size+2) 7) u).1[k]?=W6.1[k]?:=fun u k e=>bw _ _ _ _ e;have r3:=block_setCell (i:=7) (FG (Vv (XM (w.1.size+5) 0)) 1 1) q3;have r1:=(ks (FG (Vv (XM (w.1.size+5) 0)) 1 1) _ WQ).trans q1;have r2:=(ks (FG (Vv (XM (w.1.size+5) 0)) 1 1) _ WQ).trans q2;have r4:=(ks (FG (Vv (XM (w.1.size+5) 0)) 1 1) _ WQ).trans q4;have r5:=(ks (FG (Vv (XM (w.1.size+5) 0)) 1 1) _ WQ).trans q5;have r6:=(ks (FG (Vv (XM (w.1.size+5) 0)) 1 1) _ WQ).trans q6;have Vk:=aa (Tq.o.setCell (p:=⟨w.1.size+2,7,VX⟩) Tdq (FG (Vv (XM (w.1.size+5) 0)) 1 1));clear q1 q2 q3 q4 q5 q6 ks c7 cf;generalize az:AF W6 _ _=W7 at *;clear az;have g0:=aZ r3 0 _ lX;have g1:=aZ r3 1 _ lX;have g2:=aZ r3 2 _ lX;have g3:=aZ r3 3 _ lX;have g4:=aZ r3 4 _ lX;have g5:=aZ r3 5 _ lX;have g6:=aZ r3 6 _ lX;have g7:=aZ r3 7 _ lX;have g8:=aZ r3 8 _ lX;have z0:=aZ r1 0 _ lX;have z1:=aZ r1 1 _ lX;have z2:=aZ r1 2 _ lX;have z3:=aZ r1 3 _ lX;have z4:=aZ r1 4 _ lX;have z5:=aZ r1 5 _ lX;have z6:=aZ r1 6 _ lX;have z7:=aZ r1 7 _ lX;have z8:=aZ r1 8 _ lX;have zf:=wR r1;have hd:ck aO 7 (fun k=>k≠w.1.size) W7 [FG (Vv (XM (w.1.size+1) 0)) 1 1] pK.Gb:=ck.one (u:=[By ⟨#[112,118,48]⟩,Bm U8 1,Bm Sj 0,Bm Sj 10,Ft VN,Ft VN,FG VX 0 0]) r2 WQ lX ⟨_,rfl,ck.nil⟩;have ha:ck aQ 3 (fun k=>k≠w.1.size) W7 [FG (Vv (XM (w.1.size+3) 0)) 1 1] [⟨VN,⟨#[112,118,48]⟩,2⟩]:=ck.one (u:=[Ft VN,By ⟨#[112,118,48]⟩,Bm Sj 2]) r4 WQ lX rfl;have hs:ck bC 11 (fun k=>k≠w.1.size) W7 [FG (Vv (XM (w.1.size+4) 0)) 1 1] O6.Gf:=ck.one (u:=[Bm Sj 0,Bm Sj 3,Bm Sj 1,FG (Vv (XM (w.1.size+3) 0)) 1 1,Bm Sj 0,FG VX 0 0,By ⟨#[]⟩,By ⟨#[]⟩,Bm Sj 0,Bm Sj 0,Bm Sj 0]) r5 WQ lX ⟨_,_,rfl,ha,ck.nil⟩;have hv:ck aN 6 (fun k=>k≠w.1.size) W7 [FG (Vv (XM (w.1.size+5) 0)) 1 1] pK.F9:=ck.one (u:=[By ⟨#[97]⟩,Bm U8 0,Ft VN,Ft VN,FG VX 0 0,FG (Vv (XM (w.1.size+4) 0)) 1 1]) r6 WQ lX ⟨_,_,rfl,ck.nil,hs⟩;have Q5:Hid (dN (fun k=>k≠w.1.size) W7 pK (Ni w.1.size)):=aa ⟨ck.nil,hd,hv,ck.nil⟩;clear r1 r2 r3 r4 r5 r6 hd ha hs hv HQ Tq;go_wp2;refine eC (v:=Tk #[By ⟨#[118,103]⟩,Bm U8 0,Bm Sj 0,Bm Sj 1,Bm Sj 0,FG VX 0 0,FG (Vv (XM (w.1.size+1) 0)) 1 1,FG (Vv (XM (w.1.size+5) 0)) 1 1,FG VX 0 0]) (by simp[results,Tryz.results26,go_sem,z0,z1,z2,z3,z4,z5,z6,z7,z8]) lX (show Ox w _ _ from⟨rfl,?_,?_⟩)
 ·refine Q5.o.mv ⟨Tdi,fun k hk ho=>⟨trivial,?_⟩⟩;simp only[bw _ ⟨w.1.size,_,VX⟩ _ k ho]
 have hL:∀(V:H7) (o:Nat) (z:zY),Below w.1.size w V->Below w.1.size w (V.setCell ⟨w.1.size,o,VX⟩ z):=fun V o z q=>q.setCell (p:=⟨w.1.size,o,VX⟩) (bk _) z
 exact hL _ _ _ (hL _ _ _ (hL _ _ _ (hL _ _ _ (hL _ _ _ (hL _ _ _ (hL _ _ _ (hL _ _ _ (hL _ _ _ Vk.o))))))))
def Nk:GIn pK:=by
 refine⟨⟨YR,⟨YR,fun s hs=>by cases hs⟩,YR,YR,YR,fun d hd=>?_,fun v hv=>?_,fun h hh=>(by cases hh)⟩,⟨YR,fun d hd=>?_,YR,fun v hv=>?_⟩,fun v hv s hs=>?_,fun v hv s hs=>?_⟩
 ·obtain rfl:=AM.1 hd;exact⟨YR,YR,fun s hs=>by cases hs⟩
 ·obtain rfl:=AM.1 hv;exact⟨YR,YR,fun s hs=>by cases hs⟩
 ·obtain rfl:=AM.1 hd;decide
 ·obtain rfl:=AM.1 hv;exact⟨YR,YR,fun s hs=>by obtain rfl:=AM.1 hs;decide⟩
 ·obtain rfl:=AM.1 hv;obtain rfl:=AM.1 hs;decide
 obtain rfl:=AM.1 hv;obtain rfl:=AM.1 hs;exact⟨YR,YR,fun x hx=>by obtain rfl:=AM.1 hx;decide,YR⟩
def Oh:dK LP:=⟨YR,YR,YR,YR,YR,YR,YR⟩
def OC:dK Mt:=⟨YR,YR,YR,YR,YR,YR,YR⟩
def O4:wy (wy aR):=[[⟨VN,⟨#[112,118,48]⟩,0⟩,⟨VN,⟨#[112,118,48]⟩,5⟩]]
def Ms:uR pK LP [[(0,2),(5,5)]]=(O4,VR):=by
 unfold uR;rw[bh YR];kernel_rfl
def Ob:Eb pK LP [[(0,2),(5,5)]]=0:=by
 unfold Eb;rw[aw Ot,Ms];rfl
def Oy:NT Mt (iU [[(0,2),(5,5)]])=(2,5,6,0):=by kernel_rfl
def xY(hS:AW w):Calls prog 8 #[] w fun e w'=>e=S6 (Ft VR)/\Below w.1.size w w':=by
 replace hS:=aa hS;go_enter func8,ntmps8
 go_wp2_with fail;refine(LV w).mono ?_;rintro e w1 ⟨rfl,ah,ab⟩;have cU:=aa ab;have HA:=aa (BS (ok:=fun _=>True) pK (Ni w.1.size) LP w1 ah ⟨Nk,(D6 MU).1⟩ Oh (hS.o.below ab) YR);clear ah ab;go_wp2_with fail;refine HA.o.mono ?_;clear HA;rintro e w2 ⟨v,xs,rfl,hb2,Uv,vh,-,gw⟩;rw[Ot,aw lX]at vh;obtain rfl:=Nj O3 YR Uv vh;rw[Ob]at gw ⊢;have ho:=gw lX;rw[Ms]at ho;obtain⟨pv,cv,rfl,-,-⟩:=ho.cap;obtain⟨b,u,hpb,-,-,Ry,af⟩:=ho.at (k:=0) lX;subst hpb;have kf:=bF.rd (ok':=fun k=>k<w2.1.size) aQ.moves af YR (fun k hk _=>hk) (fun k e=>(iC.ge af e).2);obtain⟨p0,c0,rfl,aq,au⟩:=kf.cap;obtain⟨bp,off,us,rfl,av,-,-,eE,ai⟩:=kf.elem (k:=1) (x:=⟨VN,⟨#[112,118,48]⟩,5⟩) lX;obtain rfl:us=_:=eE;have aj:=ai 2 _ lX;have hbl:=cP w2 _ Ry;have cm:=YS cU hb2;have ay:=aa Ry;have az:=aa aj;have ak:O4.length=1:=rfl;rw[ak];clear ho gw Uv hb2 af vh kf ai aj Ry ak;go_wp2_with fail;refine(LV w2).mono ?_;rintro e w3 ⟨rfl,am,hb3⟩;have cJ:=YS cm hb3;have HR:=aa (Na (ok:=fun _=>True) pK (Ni w2.1.size) Mt w3 am ⟨Nk,(D6 MU).1⟩ OC (hS.o.below cJ.o) MU YR);replace hb3:=aa hb3;clear am;go_wp2_with fail;refine HR.o.mono ?_;clear HR;rintro e w4 ⟨xs,Uv,vh,rfl,ag⟩;obtain rfl:=Nj OZ Yp Uv vh;rw[Oy];dsimp only;have ao:=ae w4 (Sx TaM 86);have a8:=b9 w4 (Sx TaM 86);have aA:=hb3.o.size;have aD:=ag.size;have a5:Below w2.1.size w2 (w4.alloc (Sx TaM 86)):=hb3.o.trans ((ag.mono aA).trans (ao.mono WQ));have eK:=YS cm a5;have aE:(w4.alloc (Sx TaM 86)).1.size=w4.1.size+1:=cW ..;generalize aB:w4.alloc (Sx TaM 86)=W5 at *;have z0:=aZ a8 0 _ lX;have z1:=aZ a8 1 _ lX;have z2:=aZ a8 2 _ lX;have zf:=wR a8;have a7:(((W5.setCell w4.1.size (Bm Sj 2)).setCell (XM w4.1.size 1) (Bm Sj 5)).setCell (XM w4.1.size 2) (Bm Sj 6)).1[w4.1.size]?=Vv (Sx #[Bm Sj 2,Bm Sj 5,Bm Sj 6] 86 (0,0)):=block_setCell (cs:=#[_,_,_]) (i:=2) _ (block_setCell (cs:=#[_,_,_]) (i:=1) _ (block_setCell (cs:=#[_,_,_]) (i:=0) _ a8));have XO:∀k,k<w2.1.size->(((W5.setCell w4.1.size (Bm Sj 2)).setCell (XM w4.1.size 1) (Bm Sj 5)).setCell (XM w4.1.size 2) (Bm Sj 6)).1[k]?=w2.1[k]?:=fun k hk=>(bw _ _ _ _ (show k≠w4.1.size by omega)).trans ((bw _ _ _ _ (show k≠w4.1.size by omega)).trans ((bw _ _ _ _ (show k≠w4.1.size by omega)).trans (a5.block k hk)))
 have a9:Below w.1.size w (((W5.setCell w4.1.size (Bm Sj 2)).setCell (XM w4.1.size 1) (Bm Sj 5)).setCell (XM w4.1.size 2) (Bm Sj 6)):=by
  have h0:=cm.o.size;exact((eK.o.setCell (p:=w4.1.size) (show w.1.size<=w4.1.size by omega) _).setCell (p:=⟨w4.1.size,1,VX⟩) (show w.1.size<=w4.1.size by omega) _).setCell (p:=⟨w4.1.size,2,VX⟩) (show w.1.size<=w4.1.size by omega) _
 have HF:=aa (⟨a7,XO,a9⟩:_/\_/\_);clear a7 XO a9 a8 ao a5 eK ag Uv vh;go_upto_region 3 with(fail);clear z0 z1 z2 zf aB;obtain⟨a7,XO,a9⟩:=HF.o;generalize aC:AF (AF (AF W5 _ _) _ _) _ _=W6 at *;clear aC HF;have x0:=aZ a7 0 _ lX;have x1:=aZ a7 1 _ lX;have x2:=aZ a7 2 _ lX;have cu:=(cd (a:=b) (XO b hbl)).trans ay.o;have s5:=(cd (a:=⟨bp,off+1*3+2,VX⟩) (XO bp av)).trans az.o;have aF:W6.cell? (bp,off+3+2)=Vv (Bm Sj 5):=s5;have heq:∀W:H7,(binOp .eql 86 (Tk #[Bm Sj 2,Bm Sj 5,Bm Sj 6]) (Tk #[Bm Sj 2,Bm Sj 5,Bm Sj 6])).run prog W=.ok (Ft VR) W:=fun W=>by kernel_rfl
 replace a9:=aa a9;clear a7 XO;go_wp2;go_ret;exact⟨rfl,a9.o⟩
def LH(nm:α->H6)(p:H6->Bool)(l:wy α)(x:H6):x∈gD nm p l↔p x=VR/\∃y∈l,nm y=x:=by
 have:∀(l:wy α) (o:QN),x∈l.foldl (fun a5 y=>if(p (nm y)&&!bI a5 (nm y))=VR then a5++[nm y] else a5) o↔x∈o\/p x=VR/\∃y∈l,nm y=x:=by
  intro l;induction l with
  |nil=>intro o;simp
  |cons y l ih =>
   intro o;rw[cF,ih];have h1:x∈(if(p (nm y)&&!bI o (nm y))=VR then o++[nm y] else o)↔x∈o\/p x=VR/\nm y=x:=by
    by_cases hc:(p (nm y)&&!bI o (nm y))=VR
    ·rw[aw hc,oT,AM];rw[eh]at hc;constructor
     ·rintro(h|rfl)
      ·exact .inl h
      exact .inr ⟨hc.1,rfl⟩
     rintro(h|⟨_,rfl⟩)
     ·exact .inl h
     exact .inr lX
    rw[bh hc];refine⟨.inl,?_⟩;rintro(h|⟨h1,rfl⟩)
    ·exact h
    rw[h1,Bool.true_and]at hc;simpa[ny]using hc
   rw[h1];constructor
   ·rintro((h|⟨h2,h3⟩)|⟨h2,z,hz,h3⟩)
    ·exact .inl h
    ·exact .inr ⟨h2,y,cG,h3⟩
    exact .inr ⟨h2,z,kn _ hz,h3⟩
   rintro(h|⟨h2,z,hz,h3⟩)
   ·exact .inl (.inl h)
   rcases DQ.1 hz with rfl|hz
   ·exact .inl (.inr ⟨h2,h3⟩)
   exact .inr ⟨h2,z,hz,h3⟩
 simpa[gD]using this l []
def kZ(F9:wy ay)(x:H6):QN:=kY ((aM F9 x).getD eY)
def vC(F9:wy ay)(x:H6):kZ F9 x=(dU F9 x).getD []:=by
 unfold kZ dU;cases aM F9 x<;>rfl
inductive RR (F9:wy ay)(l0:QN):H6->Prop
 |base {x:H6}:x∈l0->RR F9 l0 x
 |step {x y:H6}:RR F9 l0 y->x∈kZ F9 y->RR F9 l0 x
def RR.reach(h:RR F9 l0 x):(dU F9 x).isSome=VR->Reach (dU F9) l0 x:=by
 induction h with
 |base h=>exact fun hs=>.base h hs
 |@step x y _ h ih =>
  intro hs;rw[vC]at h;cases hl:dU F9 y with
  |none=>rw[hl]at h;cases h
  |some l=>rw[hl]at h ih;exact .step (ih lX) hl h hs
def Ow(h:Reach (dU F9) l0 x):RR F9 l0 x/\(dU F9 x).isSome=VR:=by
 induction h with
 |base h hs=>exact⟨.base h,hs⟩
 |step _ hl h hs ih=>exact⟨.step ih.1 (by rw[vC,hl];exact h),hs⟩
structure JS(F9:wy ay)(l0 l:QN)(i:Nat):Prop where
 b:∀x∈l0,x∈l
 s:∀x∈l,RR F9 l0 x
 c:∀(j:Nat) (y:H6),j<i->l[j]?=Vv y->∀x∈kZ F9 y,x∈l
def JS.start :JS F9 l0 l0 0:=⟨fun _ h=>h,fun _ h=>.base h,fun j _ hj=>by omega⟩
def JS.done(h:JS F9 l0 l i)(hi:l.length<=i)(x:H6):x∈l↔RR F9 l0 x:=by
 refine⟨h.s x,fun r=>?_⟩;induction r with
 |base h1=>exact h.b _ h1
 |step _ h2 ih =>
  obtain⟨j,hj,e⟩:=List.getElem_of_mem ih;exact h.c j _ WQ (by rw[lO hj,e]) _ h2
structure KV(F9:wy ay)(l0 l:QN)(i:Nat)(y:H6)(k:Nat):Prop extends JS F9 l0 l i where
 at_:l[i]?=Vv y
 up:∀x∈(kZ F9 y).take k,x∈l
def JS.open(h:JS F9 l0 l i)(hy:l[i]?=Vv y):KV F9 l0 l i y 0:=⟨h,hy,fun x hx=>by simp at hx⟩
def KV.shut(h:KV F9 l0 l i y (kZ F9 y).length):JS F9 l0 l (i+1):=⟨h.b,h.s,fun j z hj hz x hx=>by
 by_cases e:j=i
 ·subst e;rw[h.at_]at hz;injection hz with hz;subst hz;exact h.up x (by rw[cI];exact hx)
 exact h.c j z WQ hz x hx⟩
def KV.skip(h:KV F9 l0 l i y k)(hx:(kZ F9 y)[k]?=Vv x)(hm:bI l x=VR):KV F9 l0 l i y (k+1):=⟨⟨h.b,h.s,h.c⟩,h.at_,fun z hz=>by
 rw[take_snoc' _ k x hx]at hz;rcases AS.1 hz with hz|hz
 ·exact h.up z hz
 obtain rfl:=AM.1 hz;exact ny.1 hm⟩
def KV.more(h:KV F9 l0 l i y k)(hx:(kZ F9 y)[k]?=Vv x):KV F9 l0 (l++[x]) i y (k+1):=by
 have hi:=(AT.1 h.at_).1;refine⟨⟨fun z hz=>ju _ (h.b z hz),fun z hz=>?_,fun j z hj hz q hq=>?_⟩,?_,fun z hz=>?_⟩
 ·rcases AS.1 hz with hz|hz
  ·exact h.s z hz
  obtain rfl:=AM.1 hz;exact .step (h.s y (ct h.at_)) (ct hx)
 ·rw[Fo WQ]at hz;exact ju _ (h.c j z hj hz q hq)
 ·rw[Fo hi];exact h.at_
 rw[take_snoc' _ k x hx]at hz;rcases AS.1 hz with hz|hz
 ·exact ju _ (h.up z hz)
 exact P9 _ hz
def Oe{nm:H6}(h:∀x,x∈l↔RR g.F9 (kZ g.F9 nm) x):gD az.name (fun d=>([nm]++gD ay.name (bI l) g.F9).any (XZ g.F9 d)) g.Gb=sP g nm:=by
 classical
 unfold sP;congr 1
 funext d
 rw[mN,nh,nh];have key:∀x,XZ g.F9 d x=VR->(x∈[nm]++gD ay.name (bI l) g.F9↔x∈mR g.F9 nm):=fun x hx=>by
  have hs:∃v,aM g.F9 x=Vv v:=by
   cases hf:aM g.F9 x with
   |some v=>exact⟨v,rfl⟩
   |none=>unfold XZ at hx;rw[hf]at hx;cases hx
  obtain⟨v,hv⟩:=hs;have a5:(dU g.F9 x).isSome=VR:=by unfold dU;rw[hv];rfl
  have a7:∃y∈g.F9,y.name=x:=⟨v,eV hv,by simpa using List.find?_some hv⟩;unfold mR;rw[oT,AM,LH,LH,ny,h,vC];unfold Fj;rw[decide_eq_true_iff];constructor
  ·rintro(rfl|⟨h1,h2⟩)
   ·exact⟨.inl lX,a7⟩
   exact⟨.inr (h1.reach a5),h2⟩
  rintro⟨rfl|h1,h2⟩
  ·exact .inl lX
  exact .inr ⟨(Ow h1).1,h2⟩
 constructor
 ·rintro⟨x,h1,h2⟩;exact⟨x,(key x h2).1 h1,h2⟩
 rintro⟨x,h1,h2⟩;exact⟨x,(key x h2).2 h1,h2⟩
def sO{ok:LN}(l:QN)(x:H6)(w:H7)(h:ck aF 1 ok w [v] l)(hl:l.length<=10000000):Calls prog 113 #[v,By x] w fun e w'=>e=S6 (Ft (bI l x))/\w=w':=by
 obtain⟨p,cap,rfl,a5,a7⟩:=h.cap;have HH:=aa h;clear h;go_enter func113,ntmps113;exact Ta7
def Mh{ok ok':LN}(g:af)(a:iX)(l:QN)(w:H7)(hr:ck aN 6 ok w [FG a.vp (Wq g.F9) a.vc] g.F9)(mb:Wq g.F9<=1000)(hl:ck aF 1 ok' w [lv] l)(hll:l.length<=10000000):Calls prog 157 #[Tk (Zg g a),lv] w (Dx w.1.size w (gD ay.name (bI l) g.F9)):=by
 replace hr:=aa hr;obtain⟨lp,lc,rfl,_,_⟩:=hl.cap;replace hl:=aa hl;have a8:=aa (ae w (Sx (Zg g a) 31));have rB:=aa (b9 w (Sx (Zg g a) 31));go_enter func157,ntmps157
 go_upto_region 3 with(fail);generalize AI w _=W1 at *;generalize ah:w.1.size=Bg at rB ⊢;clear ah;have ai:=aq rB.o;go_loopw[5,6] (fun o i wr=>∃k:Nat,k<=Wq g.F9/\i=Bm Sj k/\dF wr W1.1.size o (gD ay.name (bI l) (g.F9.take k))/\Below W1.1.size W1 wr) (fun _ i _=>Wq g.F9-(intOf i).toNat)
 exact⟨0,cg _,rfl,dF.nil _ _,bj _ _⟩;obtain⟨k,hk,rfl,a5,hB⟩:=hrel;replace a5:=aa a5;replace hB:=aa hB;have ak:=lq ay.name (bI l) (g.F9.take k);rw[ey]at ak;have mA:=hB.o.size;have ao:=a8.o.size;have g7:wr.cell? (XM Bg 7)=Vv (FG a.vp (Wq g.F9) a.vc):=mi ((hB.o.block _ ai).trans rB.o) 7 _ lX;by_cases hlt:k<Wq g.F9
 ·obtain⟨v,hv⟩:=aj g.F9 k hlt;obtain⟨b,off,us,yp,gR,cX,ez,eE,a9⟩:=hr.o.elem hv;obtain⟨tv,sv,rfl,ew,gA⟩:=eE;have cT:wr.1[b]?=w.1[b]?:=(hB.o.block b WQ).trans (a8.o.block b cX);have q0:wr.cell? (b,off+k*6)=Vv (By v.name):=by
   rw[<- a9 0 _ lX];simp only[AN,cT,fg]
  rw[yp]at g7;clear yp;have sY:=aa (rJ ay.name (bI l) hv);clear hv a9 ez cT ew gA;have a7:=aa (sO l v.name wr ((ck.moves aF.moves).mv (ok':=fun _=>True) ⟨WQ,fun b hb _=>⟨trivial,(hB.o.block b WQ).trans (a8.o.block b hb)⟩⟩ hl.o) hll);generalize ab:gD ay.name (bI l) (g.F9.take k)=pl at *;replace ab:=aa ab;obtain⟨op,oc,e,_,_⟩:=(a5.o.rd (ok:=fun _=>True) (fun _ _=>trivial)).cap;subst e;have HW2:=aa (sO (ok:=fun _=>True) pl v.name wr (a5.o.rd (fun _ _=>trivial)) WQ);cases hh:bI l v.name with
  |false =>
   rw[hh]at a7 sY;rw[Bool.false_and,bh XN]at sY;have HH:=aa hh;clear hh HW2;go_wp2_with(refine a7.o.mono ?_;rintro e w3 ⟨rfl,rfl⟩)
   go_roundw;exact⟨k+1,WQ,Zf,by rw[sY.o];exact a5.o,hB.o⟩;exact Ti
  |true =>
   rw[hh]at a7 sY;rw[Bool.true_and]at sY;have HH:=aa hh;clear hh;cases hc:bI pl v.name with
   |true =>
    rw[hc]at HW2 sY;rw[bh XN]at sY;have HC:=aa hc;clear hc;go_wp2_with(fail)
    clear g7 q0;refine a7.o.mono ?_;rintro e w3 ⟨rfl,rfl⟩;go_wp2_with(fail)
    refine HW2.o.mono ?_;rintro e w3 ⟨rfl,rfl⟩;go_wp2;go_roundw;exact⟨k+1,WQ,Zf,by rw[sY.o];exact a5.o,hB.o⟩;exact Ti
   |false =>
    rw[hc]at HW2 sY;rw[aw XN]at sY;have HC:=aa hc;clear hc;go_wp2_with(fail)
    clear g7 q0;refine a7.o.mono ?_;rintro e w3 ⟨rfl,rfl⟩;go_wp2_with(fail)
    refine HW2.o.mono ?_;rintro e w3 ⟨rfl,rfl⟩;clear a7 HW2;go_wp2_with(at_builtin;refine dz lX _ _ lX W1.1.size _ pl v.name lX ?c1 wr.1.size 1 lX ?c2 ?c3 ?c4 ?_)
    case c1=>exact a5.o.alloc _
    case c2=>exact aD lX rfl
    case c3=>omega
    case c4=>simp;omega
    intro v' w1 Of ag _;have eI:=aa ((hB.o.alloc mA _).trans ag);have HOW4:=aa Of;clear ag Of;go_wp2;go_roundw;exact⟨k+1,WQ,Zf,TeS,eI.o⟩;exact Ti
 obtain rfl:k=Wq g.F9:=by omega
 rw[cI]at a5;have TF:=YS a8 hB.o;have am:=aa (a5.o.mono (B':=w.1.size) a8.o.size);go_wp2;go_ret;exact⟨_,rfl,am.o,TF.o⟩
def TcT(h:gt:=by
 have h2:=(e.block Bg vh).trans hgb;exact⟨(Sc e hb3).trans hn,cr h2 _ _ lX,cr h2 _ _ lX,cr h2 _ _ lX,cr h2 _ _ lX,cr h2 _ _ lX,cr h2 _ _ lX,cr h2 _ _ lX,cr h2 _ _ lX,cr h2 _ _ lX⟩):=h
def Ta1(h:gt:=by
 conv=>arg 2;whnf
 have vh:=aq hgb;have hS:∀w':H7,Below w.1.size w w'->(w'.cell? (b3,off3+k)=Vv (By nm)/\ON w' Bg g a):=fun w' e=>by
  exact TcT
 have HS:=aa hS;clear hS;have Rj:Hid (∀W:H7,Below w.1.size w W->dN (fun k=>ok k/\k<w.1.size) W g a):=aa fun W hb=>hg.mv ⟨hb.size,fun k hk ho=>⟨⟨ho,hk⟩,hb.block k hk⟩⟩
 have hC:∀W:H7,Below w.1.size w W->Calls prog 52 #[Tk (Zg g a),By nm] W fun e w'=>∃(tp:IH) (tc:Nat) (sp:IH) (sc:Nat) (kk:Int),e=S6 (Vj #[Tk (ZM x tp tc sp sc),kk])/\V7 (kk<0)=!Tz/\aN (fun k=>ok k/\k<w.1.size) w' [By x.name,Bm U8 x.id,Ft x.hidden,Ft x.ro,FG tp (Wq x.tags) tc,FG sp (Wq x.Gf) sc] x/\Below W.1.size W w':=fun W hb=>by
  exact TcQ
 have HC:=aa hC;clear hC Yh N3 hg hgb hn TW Rj;refine gW (fun w'=>w'.cell? (b3,off3+k)=Vv (By nm)/\ON w' Bg g a) 12 [] Yp (HS.o _ (bj _ _).drew) (fun hHeld=>?_);refine cH hQ 0 hHeld ?_;refine cH hQ 1 hHeld ?_;refine cH hQ 2 hHeld ?_;refine cH hQ 3 hHeld ?_;refine cH hQ 4 hHeld ?_;refine mh (i:=5) (j:=9) lX rfl rfl rfl Yp (fun K hK=>?_) (fun K hK=>?_)
 ·go_simp;refine(HC.o _ (bj _ _).drew).mono ?_;rintro e w1 ⟨tp,tc,sp,sc,kk,rfl,C1,hv1,hb1⟩;have HKK:=aa C1;clear C1;have hb1':Below w.1.size w w1:=⟨hb1.os,hb1.tape,hb1.output,hb1.size,hb1.block⟩;refine hK.o _ _ (HS.o _ hb1') ?_;clear hK K hHeld;have hHeld:=HS.o _ hb1';have Zx:=aa hv1;clear hv1 hb1;have cU:=aa hb1';clear hb1';refine cH hQ 6 hHeld ?_;refine cH hQ 7 hHeld ?_;refine cH hQ 8 hHeld ?_;refine lR 9 fun K hK=>?_;go_simp;have hb2:Below w.1.size w (w1.alloc (Sx Tak 46)):=cU.o.alloc cU.o.size _;refine hK.o _ _ (HS.o _ hb2) ?_;clear hK K hHeld;have gh:=b9 w1 (Sx Tak 46);have mA:=cU.o.size;have hv2:aN (fun k=>ok k/\k<w.1.size) (w1.alloc (Sx Tak 46)) [By x.name,Bm U8 x.id,Ft x.hidden,Ft x.ro,FG tp (Wq x.tags) tc,FG sp (Wq x.Gf) sc] x:=aN.moves.mv ⟨XN,fun k hk ho=>⟨ho,cj _ _ _ hk⟩⟩ Zx.o;generalize hW2:World.alloc w1 _=W2 at *;generalize hb0:w1.1.size=b0 at *;clear hW2 hb0 Zx cU;have Vn:=aa hv2;clear hv2;obtain⟨zf,z0,z1,z2,z3,z4,z5⟩:=BO gh;obtain⟨sb,sk,so⟩:=zQ gh (By x.name) (Bm U8 x.id) (Ft x.hidden) (Ft x.ro) (FG tp (Wq x.tags) tc) (FG sp (Wq x.Gf) sc) lX;have cJ:=aa (sb _ _ mA hb2);have F2:=aa sk;have QW:=aa so;clear sb sk so gh;refine lR 10 fun K hK=>?_;go_simp;refine hK.o _ _ (HS.o _ cJ.o) ?_;clear hK K;refine lR 11 fun K hK=>?_;go_simp;refine hK.o _ _ (HS.o _ cJ.o) ?_;clear hK K;refine aP Yp lX ?_;simp only[cQ,km,cL];exact HK.o _ _ _ _ kk b0 _ _ _ _ _ _ _ _ _ _ HKK.o cJ.o mA F2.o (aN.moves.mv ⟨Tdi,fun k hk ho=>⟨ho,QW.o k TdC⟩⟩ Vn.o)
 go_simp;have hb2:Below w.1.size w (w.drew.alloc (Sx Tak 46)):=((bj _ _).drew).alloc (bk _) _;refine hK.o _ _ (HS.o _ hb2) ?_;clear hK K hHeld;have hHeld:=HS.o _ hb2;refine lR 5 fun K hK=>?_;go_simp;refine(HC.o _ hb2).mono ?_;rintro e w1 ⟨tp,tc,sp,sc,kk,rfl,C1,hv1,hb1⟩;have HKK:=aa C1;clear C1;have hb1':Below w.1.size w w1:=hb2.trans (hb1.mono hb2.size);refine hK.o _ _ (HS.o _ hb1') ?_;clear hK K hHeld;have hHeld:=HS.o _ hb1';have gh:=(hb1.block _ XN).trans (b9 w.drew (Sx Tak 46));have hv2:=hv1;have mA:w.1.size<=w.1.size:=bk _;have gh:w1.1[w.1.size]?=Vv (Sx Tak 46 (0,0)):=gh;clear hb2;have hb2:=hb1';clear hv1 hb1 hb1';generalize w1=W2 at *;refine cH hQ 6 hHeld ?_;refine cH hQ 7 hHeld ?_;refine cH hQ 8 hHeld ?_;have Vn:=aa hv2;clear hv2;obtain⟨zf,z0,z1,z2,z3,z4,z5⟩:=BO gh;obtain⟨sb,sk,so⟩:=zQ gh (By x.name) (Bm U8 x.id) (Ft x.hidden) (Ft x.ro) (FG tp (Wq x.tags) tc) (FG sp (Wq x.Gf) sc) lX;have cJ:=aa (sb _ _ mA hb2);have F2:=aa sk;have QW:=aa so;clear sb sk so gh;refine lR 10 fun K hK=>?_;go_simp;refine hK.o _ _ (HS.o _ cJ.o) ?_;clear hK K;refine lR 11 fun K hK=>?_;go_simp;refine hK.o _ _ (HS.o _ cJ.o) ?_;clear hK K;refine aP Yp lX ?_;simp only[cQ,km,cL];exact HK.o _ _ _ _ kk w.1.size _ _ _ _ _ _ _ _ _ _ HKK.o cJ.o mA F2.o (aN.moves.mv ⟨Tdi,fun k hk ho=>⟨ho,QW.o k TdC⟩⟩ Vn.o)):=h
def MO{ok:LN}(w:H7)(g:af)(a:iX)(Bg b3 off3 k nn ac:Nat)(nm:H6)(hgb:w.1[Bg]?=Vv (Sx (Zg g a) 31 (0,0)))(a7:k<nn)(hb3:b3<w.1.size)(hn:w.cell? (b3,off3+k)=Vv (By nm))
  (hg:dN ok w g a) (TW:Wq g.F9<=1000000) {x:ay}  (Yh:(aM g.F9 nm).getD eY=x) (N3:(aM g.F9 nm).isSome=Tz)
  (HK:Hid (∀(tp:IH) (tc:Nat) (sp:IH) (sc:Nat) (kk:Int) (b:Nat) (W':H7) (u27 u28 u29 a5 u31 u32 u33 u34 u35:zY),V7 (kk<0)=!Tz->Below w.1.size w W'->w.1.size<=b->W'.1[b]?=Vv (Sx (ZM x tp tc sp sc) 46 (0,0))->aN (fun k=>ok k/\k<w.1.size) W' [By x.name,Bm U8 x.id,Ft x.hidden,Ft x.ro,FG tp (Wq x.tags) tc,FG sp (Wq x.Gf) sc] x->Q .normal ⟨#[c0,c1,SL (Vv Bg),c3,c4,c5,c6,FG (Vv (b3,off3)) nn ac,Bm Sj (k:Int),SL (Vv b),Bm Sj kk,ZS,ao,Sf,TO,RK,RW,Rr,SO,Se,St,W0,ZD,Wg,Wr,To,UP,u27,u28,u29,a5,u31,u32,u33,u34,u35,fb,fa,mT,me,ph,qe,qk,mu,mw,mx,nF,pr,o4,oE,oR,oS,pe,qt,qv,rl,rm,sE,sa,sd,yk],[]⟩ W'))
  (hQ:∀c (a:Act) (d:Tmp) (v:zY) w,Q (.panic c) (a.put (Vv d) v) w->Q (.panic c) a w) :
  (Ai Tryz.f112 6).wp prog Q ⟨#[c0,c1,SL (Vv Bg),c3,c4,c5,c6,FG (Vv (b3,off3)) nn ac,Bm Sj (k:Int),c9,c10,ZS,ao,Sf,TO,RK,RW,Rr,SO,Se,St,W0,ZD,Wg,Wr,To,UP,aE,ab,eS,da,dj,dq,fs,gE,ff,fb,fa,mT,me,ph,qe,qk,mu,mw,mx,nF,pr,o4,oE,oR,oS,pe,qt,qv,rl,rm,sE,sa,sd,yk],[]⟩ w:=by
 exact Ta1
def MC{ok:LN}{d8 ed ef lE lP gn iS im ka kc ke pt:zY}(w:H7)(g:af)(a:iX)(Bg b3 off3 k nn ac:Nat)(nm:H6)(hgb:w.1[Bg]?=Vv (Sx (Zg g a) 31 (0,0)))(a5:k<nn)(hb3:b3<w.1.size)(hn:w.cell? (b3,off3+k)=Vv (By nm))
  (hg:dN ok w g a) (TW:Wq g.F9<=1000000) {x:ay}  (Yh:(aM g.F9 nm).getD eY=x) (N3:(aM g.F9 nm).isSome=Tz)
  (HK:Hid (∀(tp:IH) (tc:Nat) (sp:IH) (sc:Nat) (kk:Int) (b:Nat) (W':H7) (u34 u35 u36 u37 u38 u39 u40 u41 u42:zY),V7 (kk<0)=!Tz->Below w.1.size w W'->w.1.size<=b->W'.1[b]?=Vv (Sx (ZM x tp tc sp sc) 46 (0,0))->aN (fun k=>ok k/\k<w.1.size) W' [By x.name,Bm U8 x.id,Ft x.hidden,Ft x.ro,FG tp (Wq x.tags) tc,FG sp (Wq x.Gf) sc] x->Q .normal ⟨#[c0,c1,SL (Vv Bg),c3,c4,FG (Vv (b3,off3)) nn ac,c6,c7,c8,Bm Sj (k:Int),SL (Vv b),Bm Sj kk,ao,Sf,TO,RK,RW,Rr,SO,Se,St,W0,ZD,Wg,Wr,To,UP,aE,ab,eS,da,dj,dq,fs,u34,u35,u36,u37,u38,u39,u40,u41,u42,mu,mw,mx,nF,pr,o4,oE,oR,oS,pe,qt,qv,rl,rm,sE,sa,sd,yk,zd,zp,bV,ca,cb,ce,am,an,b7,b8,ba,be,bf,bn,bo,br,bt,bu,bA,bB,bL,cp,cw,cy,cB,d8,db,ds,e6,e8,e9,ea,ch,ci,cn,co,eb,ed,ef,lE,lP,gn,iS,im,ka,kc,ke,pt],[]⟩ W'))
  (hQ:∀c (a:Act) (d:Tmp) (v:zY) w,Q (.panic c) (a.put (Vv d) v) w->Q (.panic c) a w) :
  (Ai Tryz.f56 10).wp prog Q ⟨#[c0,c1,SL (Vv Bg),c3,c4,FG (Vv (b3,off3)) nn ac,c6,c7,c8,Bm Sj (k:Int),c10,ZS,ao,Sf,TO,RK,RW,Rr,SO,Se,St,W0,ZD,Wg,Wr,To,UP,aE,ab,eS,da,dj,dq,fs,gE,ff,fb,fa,mT,me,ph,qe,qk,mu,mw,mx,nF,pr,o4,oE,oR,oS,pe,qt,qv,rl,rm,sE,sa,sd,yk,zd,zp,bV,ca,cb,ce,am,an,b7,b8,ba,be,bf,bn,bo,br,bt,bu,bA,bB,bL,cp,cw,cy,cB,d8,db,ds,e6,e8,e9,ea,ch,ci,cn,co,eb,ed,ef,lE,lP,gn,iS,im,ka,kc,ke,pt],[]⟩ w:=by
 exact Ta1
def LC{ok:LN}(w:H7)(g:af)(a:iX)(Bg b3 off3 k nn ac:Nat)(nm:H6)(hgb:w.1[Bg]?=Vv (Sx (Zg g a) 31 (0,0)))(aj:k<nn)(hb3:b3<w.1.size)(hn:w.cell? (b3,off3+k)=Vv (By nm))
  (hg:dN ok w g a) (TW:Wq g.Gb<=1000000) {x:az}  (Yh:(bH g.Gb nm).getD gT=x) (N3:(bH g.Gb nm).isSome=Tz)
  (HK:Hid (∀(tp:IH) (tc:Nat) (kk:Int) (b:Nat) (W':H7) (u58 u59 u60 u61 u62 u63 u64 u65 u66:zY),V7 (kk<0)=!Tz->Below w.1.size w W'->w.1.size<=b->W'.1[b]?=Vv (Sx (u0 x tp tc) 69 (0,0))->aO (fun k=>ok k/\k<w.1.size) W' [By x.name,Bm U8 x.id,Bm Sj x.first,Bm Sj x.Gc,Ft x.closed,Ft x.missing,FG tp (Wq x.tags) tc] x->Q .normal ⟨#[c0,c1,c2,SL (Vv Bg),c4,c5,c6,FG (Vv (b3,off3)) nn ac,Bm Sj (k:Int),SL (Vv b),Bm Sj kk,ZS,ao,Sf,TO,RK,RW,Rr,SO,Se,St,W0,ZD,Wg,Wr,To,UP,aE,ab,eS,da,dj,dq,fs,gE,ff,fb,fa,mT,me,ph,qe,qk,mu,mw,mx,nF,pr,o4,oE,oR,oS,pe,qt,qv,rl,rm,sE,u58,u59,u60,u61,u62,u63,u64,u65,u66,am,an,b7,b8,ba,be,bf,bn,bo,br,bt,bu,bA,bB,bL],[]⟩ W'))
  (hQ:∀c (a:Act) (d:Tmp) (v:zY) w,Q (.panic c) (a.put (Vv d) v) w->Q (.panic c) a w) :
  (Ai Tryz.f30 11).wp prog Q ⟨#[c0,c1,c2,SL (Vv Bg),c4,c5,c6,FG (Vv (b3,off3)) nn ac,Bm Sj (k:Int),c9,c10,ZS,ao,Sf,TO,RK,RW,Rr,SO,Se,St,W0,ZD,Wg,Wr,To,UP,aE,ab,eS,da,dj,dq,fs,gE,ff,fb,fa,mT,me,ph,qe,qk,mu,mw,mx,nF,pr,o4,oE,oR,oS,pe,qt,qv,rl,rm,sE,sa,sd,yk,zd,zp,bV,ca,cb,ce,am,an,b7,b8,ba,be,bf,bn,bo,br,bt,bu,bA,bB,bL],[]⟩ w:=by
 conv=>arg 2;whnf
 have vh:=aq hgb;have hS:∀w':H7,Below w.1.size w w'->(w'.cell? (b3,off3+k)=Vv (By nm)/\ON w' Bg g a):=fun w' e=>by
  exact TcT
 replace hS:=aa hS;have Rj:Hid (∀W:H7,Below w.1.size w W->dN (fun k=>ok k/\k<w.1.size) W g a):=aa fun W hb=>hg.mv ⟨hb.size,fun k hk ho=>⟨⟨ho,hk⟩,hb.block k hk⟩⟩
 have hC:∀W:H7,Below w.1.size w W->Calls prog 57 #[Tk (Zg g a),By nm] W fun e w'=>∃(tp:IH) (tc:Nat) (kk:Int),e=S6 (Vj #[Tk (u0 x tp tc),kk])/\V7 (kk<0)=!Tz/\aO (fun k=>ok k/\k<w.1.size) w' [By x.name,Bm U8 x.id,Bm Sj x.first,Bm Sj x.Gc,Ft x.closed,Ft x.missing,FG tp (Wq x.tags) tc] x/\Below W.1.size W w':=fun W hb=>by
  exact TcS
 replace hC:=aa hC;clear Yh N3 hg hgb hn TW Rj;refine gW (fun w'=>w'.cell? (b3,off3+k)=Vv (By nm)/\ON w' Bg g a) 12 [] Yp (hS.o _ (bj _ _).drew) (fun a5=>?_);refine cH hQ 0 a5 ?_;refine cH hQ 1 a5 ?_;refine cH hQ 2 a5 ?_;refine cH hQ 3 a5 ?_;refine cH hQ 4 a5 ?_;refine mh (i:=5) (j:=9) lX rfl rfl rfl Yp (fun K hK=>?_) (fun K hK=>?_)
 ·go_simp;refine(hC.o _ (bj _ _).drew).mono ?_;rintro e w1 ⟨tp,tc,kk,rfl,C1,a9,a8⟩;have ag:=aa C1;clear C1;have a7:Below w.1.size w w1:=⟨a8.os,a8.tape,a8.output,a8.size,a8.block⟩;refine hK.o _ _ (hS.o _ a7) ?_;clear hK K a5;have a5:=hS.o _ a7;replace a9:=aa a9;clear a8;replace a7:=aa a7;refine cH hQ 6 a5 ?_;refine cH hQ 7 a5 ?_;refine cH hQ 8 a5 ?_;refine lR 9 fun K hK=>?_;go_simp;have hb2:Below w.1.size w (w1.alloc (Sx Tal 69)):=a7.o.alloc a7.o.size _;refine hK.o _ _ (hS.o _ hb2) ?_;clear hK K a5;have gh:=b9 w1 (Sx Tal 69);have mA:=a7.o.size;have ae:aO (fun k=>ok k/\k<w.1.size) (w1.alloc (Sx Tal 69)) [By x.name,Bm U8 x.id,Bm Sj x.first,Bm Sj x.Gc,Ft x.closed,Ft x.missing,FG tp (Wq x.tags) tc] x:=aO.moves.mv ⟨XN,fun k hk ho=>⟨ho,cj _ _ _ hk⟩⟩ a9.o;generalize ah:AI w1 _=W2 at *;generalize ai:w1.1.size=b0 at *;clear ah ai a9 a7;have Vn:=aa ae;clear ae;have zf:=Gq gh;obtain⟨sb,sk,so⟩:=CR gh (By x.name) (Bm U8 x.id) (Bm Sj x.first) (Bm Sj x.Gc) (Ft x.closed) (Ft x.missing) (FG tp (Wq x.tags) tc) lX;have cJ:=aa (sb _ _ mA hb2);have F2:=aa sk;have QW:=aa so;clear sb sk so gh;refine lR 10 fun K hK=>?_;go_simp;refine hK.o _ _ (hS.o _ cJ.o) ?_;clear hK K;refine lR 11 fun K hK=>?_;go_simp;refine hK.o _ _ (hS.o _ cJ.o) ?_;clear hK K;refine aP Yp lX ?_;simp only[cQ,km,cL];exact HK.o _ _ kk b0 _ _ _ _ _ _ _ _ _ _ ag.o cJ.o mA F2.o (aO.moves.mv ⟨Tdi,fun k hk ho=>⟨ho,QW.o k TdC⟩⟩ Vn.o)
 go_simp;have hb2:Below w.1.size w (w.drew.alloc (Sx Tal 69)):=((bj _ _).drew).alloc (bk _) _;refine hK.o _ _ (hS.o _ hb2) ?_;clear hK K a5;have a5:=hS.o _ hb2;refine lR 5 fun K hK=>?_;go_simp;refine(hC.o _ hb2).mono ?_;rintro e w1 ⟨tp,tc,kk,rfl,C1,a9,a8⟩;have ag:=aa C1;clear C1;have a7:Below w.1.size w w1:=hb2.trans (a8.mono hb2.size);refine hK.o _ _ (hS.o _ a7) ?_;clear hK K a5;have a5:=hS.o _ a7;have gh:=(a8.block _ XN).trans (b9 w.drew (Sx Tal 69));have ae:=a9;have mA:w.1.size<=w.1.size:=bk _;have gh:w1.1[w.1.size]?=Vv (Sx Tal 69 (0,0)):=gh;clear hb2;have hb2:=a7;clear a9 a8 a7;generalize w1=W2 at *;refine cH hQ 6 a5 ?_;refine cH hQ 7 a5 ?_;refine cH hQ 8 a5 ?_;have Vn:=aa ae;clear ae;have zf:=Gq gh;obtain⟨sb,sk,so⟩:=CR gh (By x.name) (Bm U8 x.id) (Bm Sj x.first) (Bm Sj x.Gc) (Ft x.closed) (Ft x.missing) (FG tp (Wq x.tags) tc) lX;have cJ:=aa (sb _ _ mA hb2);have F2:=aa sk;have QW:=aa so;clear sb sk so gh;refine lR 10 fun K hK=>?_;go_simp;refine hK.o _ _ (hS.o _ cJ.o) ?_;clear hK K;refine lR 11 fun K hK=>?_;go_simp;refine hK.o _ _ (hS.o _ cJ.o) ?_;clear hK K;refine aP Yp lX ?_;simp only[cQ,km,cL];exact HK.o _ _ kk w.1.size _ _ _ _ _ _ _ _ _ _ ag.o cJ.o mA F2.o (aO.moves.mv ⟨Tdi,fun k hk ho=>⟨ho,QW.o k TdC⟩⟩ Vn.o)
def dF.ownS(h:dF w B v l):bF aF 1 9 B (fun _=>False) w v l:=by
 refine⟨_,h,?_⟩;clear h;induction l with
 |nil=>rfl
 |cons x l ih=>exact⟨[By x],_,rfl,rfl,rfl,fun z hz=>(by obtain rfl:=AM.1 hz;rfl),ih⟩
def Pk(g:af)(nm:H6)(w:H7)(e:Ending)(w':H7):Prop:=∃v l,e=S6 v/\dF w' w.1.size v (gD ay.name (bI l) g.F9)/\(∀x,x∈l↔RR g.F9 (kZ g.F9 nm) x)/\Below w.1.size w w'
def LM(hu:uw g)(nm:H6):(kZ g.F9 nm).length<=1000:=by rw[vC];exact I1 hu nm
def NV(h:x∈kZ g.F9 y):x∈g.F9.flatMap kY:=by
 unfold kZ at h;cases hf:aM g.F9 y with
 |none=>rw[hf]at h;cases h
 |some v=>rw[hf]at h;exact BY.2 ⟨v,eV hf,h⟩
def NC(hu:uw g)(hv:Wq g.F9<=100):(g.F9.flatMap kY).length<=100000:=by
 have:=lY kY 1000 g.F9 hu.ul;omega
theorem Nc{ok:LN}(g:af)(a:iX)(nm:H6)(hr:dN ok w g a)(hu:uw g)(mb:Wq g.F9<=100):Calls prog 112 #[Tk (Zg g a),By nm] w (Pk g nm w):=by
 replace hr:=aa hr;replace hu:=aa hu;have aI:=aa (NC hu.o mb);have cU:=aa (ae w (Sx (Zg g a) 31));have rB:=aa (b9 w (Sx (Zg g a) 31));go_enter func112,ntmps112
 go_upto_region 1 with(fail);generalize AI w _=W1 at *;generalize aJ:w.1.size=Bg at rB ⊢;clear aJ;have g0:=xr (mi rB.o);go_wp2_with fail;clear g0;refine(aj7 (ok:=ok) g a nm W1 ((hr.o.mv (Mv.of cU.o)).F9) WQ).mono ?_;rintro e w2 ⟨u,kk,rfl,hv,-,hb2⟩;have HS:=aa (Dt hu.o.sz nm);have HN:Hid (kY ((aM g.F9 nm).getD eY)=kZ g.F9 nm):=aa lX;have ai:=aa (LM hu.o nm);generalize (aM g.F9 nm).getD eY=x at *;have HV:=aa hv;obtain⟨tv,sv,rfl,ew,gA⟩:=hv;obtain⟨tp,tc,rfl,_,_⟩:=ew.cap;obtain⟨sp,sc,rfl,_,_⟩:=gA.cap;clear ew gA;have au:=Zl hb2 rB;have cm:=YS cU hb2;have pC:=ae w2 (Sx (ZM x tp tc sp sc) 46);have ak:=aa pC;have av:=Zl pC au;have F2:=aa (b9 w2 (Sx (ZM x tp tc sp sc) 46));clear hb2 pC rB au;go_upto_region 2 with(fail);generalize AI w2 _=W3 at *;generalize Yx:w2.1.size=Bx at F2 ⊢;have x0:=sv6 (mi F2.o);go_wp2_with fail;clear x0;refine(Ec x W3 (aN.moves.mv (Mv.of ak.o) HV.o) HS.o (by rw[HN.o];have:=ai.o;omega)).mono ?_;rintro e w4 ⟨lv,rfl,aw,ay⟩;have cJ:=YS cm ak.o;have HO:=aa aw.ownS;have eI:=aa ay;rw[HN.o]at HO;clear aw ay F2 Yx HV HS HN ak cm;have aK:=aq av.o;have UN:Hid (JS g.F9 (kZ g.F9 nm) (kZ g.F9 nm) 0):=aa JS.start;have az:Hid (BG (g.F9.flatMap kY) (kZ g.F9 nm)<=100000):=aa (cA (Ae _ _) aI.o);generalize hl0:kZ g.F9 nm=l0 at *;replace hl0:=aa hl0;go_upto_region 4 with(fail);go_loopg [7,8] (2*BG (g.F9.flatMap kY) l0+l0.length) (fun gk lv i wr=>∃(l:QN) (n:Nat),i=Bm Sj n/\bF aF 1 9 W3.1.size (fun _=>False) wr lv l/\JS g.F9 l0 l n/\n<=l.length/\l.length+BG (g.F9.flatMap kY) l<=101000/\2*BG (g.F9.flatMap kY) l+(l.length-n)<=gk/\Below W3.1.size W3 wr)
 exact⟨l0,0,rfl,HO.o,UN.o,cg _,by have:=az.o;have:=ai.o;omega,WQ,eI.o⟩;clear HO eI UN az ai;obtain⟨l,n,rfl,ho,YD,zr,a7,Xw,hB⟩:=hrel;have HO:=aa ho;clear ho;have UN:=aa YD;clear YD;replace a7:=aa a7;replace Xw:=aa Xw;replace hB:=aa hB;have kf:ck aF 1 (fun _=>True) wr [_] l:=bF.rd aF.moves HO.o YR (fun _ _ h=>h.elim) (fun _ _=>trivial);obtain⟨lp,lc,rfl,_,_⟩:=kf.cap;replace kf:=aa kf;have mA:=hB.o.size;have rB:=aa ((hB.o.block _ aK).trans av.o);have fy:=YS cJ hB.o;have QY:=aa (hr.o.mv (Mv.of fy.o));by_cases hlt:n<l.length
 ·obtain⟨y,hy⟩:=aj l n hlt;have HY:=aa hy;obtain⟨b,off,us,rfl,gR,cX,ez,eE,aA⟩:=kf.o.elem hy;obtain rfl:us=_:=eE;have q0:=aA 0 _ lX;rw[fp,fg]at q0;clear hy aA ez;go_upto_region 6 with(fail);refine MO (ok:=ok) wr g a Bg b off n l.length lc y rB.o hlt cX q0 QY.o WQ lX rfl (aa ?_) (fun _ _ _ _ _ h=>h);intro aV aW aX aY kk Bx W5 u27 u28 u29 aZ u31 u32 u33 u34 u35 _ hb5 PX qu I2;have HS:=aa (Dt hu.o.sz y);have HN:Hid (kY ((aM g.F9 y).getD eY)=kZ g.F9 y):=aa lX;have b8:=LM hu.o y;generalize (aM g.F9 y).getD eY=x at *;have ag:=aa (bF.Gl aF.moves HO.o hb5.size fun b hb=>hb5.block b (bF.ge HO.o hb).2);have eK:=aa (hB.o.trans (hb5.mono mA));have x0:=sv6 (mi qu);clear q0 HO hB kf gR;replace I2:=aa I2;have WJ:=eK.o.size;go_upto_region 7 with(fail);go_wp2_with fail;clear x0 qu;refine(Ec x W5 I2.o HS.o (by rw[HN.o];omega)).mono ?_;rintro e w6 ⟨mv,rfl,Tc,sh⟩;have aB:=aa (bF.Gl aF.moves ag.o sh.size fun b hb=>sh.block b (bF.ge ag.o hb).2);have Tq:=aa (eK.o.trans (sh.mono WJ));rw[HN.o]at Tc;have QK:∀b,mv.ownBlock=Vv b->W5.1.size<=b/\b<w6.1.size:=fun b e=>fh Tc b e
  have YH:Hid (∀q,mv.ownBlock=Vv q->(FG (Vv (b,off)) l.length lc).ownBlock≠Vv q):=aa fun q e e2=>by
   have h1:=(bF.ge ag.o e2).2;have h2:=(QK q e).1;omega
  have ah:ck aF 1 (fun b=>mv.ownBlock=Vv b) w6 [mv] (kZ g.F9 y):=Tc.rd (fun _ e=>e);obtain⟨mp,mc,rfl,_,_⟩:=ah.cap;replace ah:=aa ah;clear Tc QK sh I2 HS HN ag eK hb5;have F2:Hid (KV g.F9 l0 l n y 0):=aa (UN.o.open HY.o);have hll:l.length<=101000:=by have:=a7.o;omega
  have ba:=Tq.o.size;go_upto_region 9 with(fail);go_loopg [7,12] ((kZ g.F9 y).length) (fun gk lv i wi=>∃(l2:QN) (k:Nat),i=Bm Sj k/\bF aF 1 9 W3.1.size (fun _=>False) wi lv l2/\KV g.F9 l0 l2 n y k/\k<=(kZ g.F9 y).length/\l2.length+BG (g.F9.flatMap kY) l2<=101000/\2*BG (g.F9.flatMap kY) l2+l2.length<=2*BG (g.F9.flatMap kY) l+l.length/\l.length<=l2.length/\(kZ g.F9 y).length-k<=gk/\Below W3.1.size W3 wi/\w6.1.size<=wi.1.size/\(∀b,(FG mp (kZ g.F9 y).length mc).ownBlock=Vv b->wi.1[b]?=w6.1[b]?/\lv.ownBlock≠Vv b))
  exact⟨l,0,rfl,aB.o,F2.o,cg _,a7.o,bk _,bk _,WQ,Tq.o,bk _,fun q e=>⟨rfl,YH.o q e⟩⟩;clear aB F2 YH Tq;obtain⟨l2,k,rfl,ho,cT,hk,a5,a8,aL,bd,aC,a9,aE⟩:=hrel;have HO:=aa ho;clear ho;have F2:=aa cT;clear cT;have cm:=aa aC;clear aC;have YH:=aa aE;clear aE;replace a5:=aa a5;replace a8:=aa a8;have am:ck aF 1 (fun _=>True) wr [_] l2:=bF.rd aF.moves HO.o YR (fun _ _ h=>h.elim) (fun _ _=>trivial);obtain⟨be,bf,rfl,_,_⟩:=am.cap;have bg:l2.length<=101000:=by have:=a5.o;omega
  by_cases hlt2:k<(kZ g.F9 y).length
  ·obtain⟨z,hz⟩:=aj _ k hlt2;obtain⟨b3,off3,aO,rfl,B7,PV,pT,Tr,ab⟩:=ah.o.elem hz;obtain rfl:aO=_:=Tr;have q0:wr.cell? (b3,off3+k)=Vv (By z):=by
    rw[<- ab 0 _ lX,fp,fg];simp only[AN,(YH.o b3 B7).1]
   have HZ:=aa hz;have HW:=aa (sO l2 z wr am WQ);clear hz ab pT am;cases hh:bI l2 z with
   |true =>
    rw[hh]at HW;have RG:=aa (F2.o.skip HZ.o hh);clear hh;go_wp2_with(refine HW.o.mono ?_;rintro e w7 ⟨rfl,rfl⟩)
    go_roundg ((kZ g.F9 y).length-(k+1))
    case measure=>omega
    exact⟨l2,k+1,Zf,HO.o,RG.o,WQ,a5.o,a8.o,aL,bk _,cm.o,a9,YH.o⟩
   |false =>
    rw[hh]at HW;have Pr:=aa (F2.o.more HZ.o);have aG:=aa (Bn (g.F9.flatMap kY) l2 z (NV (ct HZ.o)) (zz0.1 hh));clear hh;obtain⟨i0,hi,du,R0,RC⟩:=gg CJ;replace hi:=aa hi;replace du:=aa du;replace R0:=aa R0;replace RC:=aa RC;have pL:=aa (ae wr (Sx #[By z] 9));have ao:=aa (bF.Gl aF.moves HO.o pL.o.size fun b hb=>pL.o.block b (bF.ge HO.o hb).2);have bh:=cm.o.size;go_wp2_with(first|(refine HW.o.mono ?_;rintro e w7 ⟨rfl,rfl⟩)|(at_builtin;refine dX aF.moves underlying26 hi.o du.o R0.o RC.o lX YR YR lX lX W3.1.size (fun _=>False) _ l2 z lX ao.o wr.1.size 1 [By z] lX ?d1 ?d2 ?d3 ?d4 ?d5 ?d6 ?d7 ?_))
    case d1=>rfl
    case d2=>rfl
    case d3=>intro v hv;obtain rfl:=AM.1 hv;rfl
    case d4=>intro j v hv;exact aD lX (by simpa using hv)
    case d5=>omega
    case d6=>rw[cW];omega
    case d7=>intro b _ h;exact h
    intro gb cap w8 hp;have jn:Below W3.1.size wr w8:=(pL.o.mono WQ).grown hp.grown (by rw[cW];omega) (fun j e=>(bF.ge ao.o e).1);have Ix:=aa (cm.o.trans jn);have aP:w6.1.size<=w8.1.size:=cA a9 jn.size;have aQ:Hid (∀b,(FG (Vv (b3,off3)) (kZ g.F9 y).length mc).ownBlock=Vv b->w8.1[b]?=w6.1[b]?/\(FG (Vv gb) (l2.length+1) cap).ownBlock≠Vv b):=aa fun b e=>by
     obtain⟨h1,h2⟩:=YH.o b e;obtain rfl:b=b3:=gj (e.symm.trans B7);refine⟨((hp.grown.block b (by rw[cW];omega) (fun q=>h2 q.symm)).trans (pL.o.block b WQ)).trans h1,fun e2=>?_⟩;have e3:gb=b:=by injection e2
     rcases hp.at' with q|q
     ·exact h2 (by rw[q,e3])
     rw[cW]at q;omega
    have aR:=aa hp.own;clear hp jn pL ao;go_wp2;go_roundg ((kZ g.F9 y).length-(k+1))
    case measure=>omega
    exact⟨l2++[z],k+1,Zf,aR.o,Pr.o,WQ,by have:=aG.o;have:=a5.o;rw[cD,A4];omega,by have:=aG.o;have:=a8.o;rw[cD,A4];omega,by rw[cD];omega,bk _,Ix.o,aP,aQ.o⟩
  obtain rfl:k=(kZ g.F9 y).length:=by omega
  have aS:=aa F2.o.shut;go_wp2;go_roundg (2*BG (g.F9.flatMap kY) l2+(l2.length-(n+1)))
  case measure=>have:=a8.o;have:=Xw.o;omega
  exact⟨l2,n+1,Zf,HO.o,aS.o,WQ,a5.o,bk _,cm.o⟩
 obtain rfl:n=l.length:=by omega
 have g0:=xr (mi rB.o);go_wp2_with fail;clear g0;refine(Mh (ok:=ok) (ok':=fun _=>True) g a l wr QY.o.F9 WQ kf.o (by have:=a7.o;omega)).mono ?_;rintro e w7 ⟨ov,rfl,aH,rn⟩;have TF:=YS fy rn;have aT:=aa (aH.mono (B':=w.1.size) fy.o.size);have aU:Hid (∀x,x∈l↔RR g.F9 l0 x):=aa (UN.o.done (bk _));clear aH rn;go_wp2;go_ret;exact⟨_,l,rfl,aT.o,by rw[hl0.o];exact aU.o,TF.o⟩
def BK(p:α->Bool){l:wy α}{x:α}(h:l[k]?=Vv x):(l.take (k+1)).any p=((l.take k).any p||p x):=by
 rw[take_snoc' l k x h];simp
def dF.one{b:Nat}(hb:w.1[b]?=Vv (Sx #[x] 9 (0,0)))(hB:B<=b):dF w B (FG (Vv b) 1 1) [x] :=
 ⟨rfl,.inr ⟨b,1,_,rfl,hB,hb,bk _,Tdh,rfl,rfl⟩⟩
def onA(dn:H6)(a:aR):Bool:=V7 (a.on=dn)&&!a.vol
theorem MX{ok:LN}(g:af)(a:iX)(nm:H6)(w:H7)(hr:dN ok w g a)(hz:rT g)(mb:Wq g.F9<=100):Calls prog 56 #[Tk (Zg g a),By nm] w (Dx w.1.size w (sP g nm)):=by
 replace hr:=aa hr;replace hz:=aa hz;have cU:=aa (ae w (Sx (Zg g a) 31));have rB:=aa (b9 w (Sx (Zg g a) 31));go_enter func56,ntmps56
 go_upto_region 1 with(fail);generalize AI w _=W1 at *;generalize bf:w.1.size=Bg at rB ⊢;clear bf;have HA:=aa (ae W1 (Sx #[nm] 9));have aB:=aa (b9 W1 (Sx #[nm] 9));have aC:=Zl HA.o rB;have cm:=YS cU HA.o;have aJ:=aa (hr.o.mv (Mv.of cm.o));obtain⟨g0,g1,g2,g3,g4,g5,g6,g7,g8⟩:=xr (mi aC.o);go_wp2_with fail;clear g0 g1 g2 g3 g4 g5 g6 g7 g8;refine(Nc (ok:=ok) g a nm aJ.o hz.o.us mb).mono ?_;rintro e w3 ⟨bv,l,rfl,hbo,ZC,hb3⟩;replace ZC:=aa ZC;have bM:=lq ay.name (bI l) g.F9;have HPE:Hid (gD az.name (fun d=>([nm]++gD ay.name (bI l) g.F9).any (XZ g.F9 d)) g.Gb=sP g nm):=aa (Oe ZC.o);generalize gD ay.name (bI l) g.F9=P at *;have TW:=aq aB.o;have aK:Hid (dF w3 W1.1.size (FG (Vv W1.1.size) 1 1) [nm]):=aa (dF.one ((hb3.block _ TW).trans aB.o) (bk _));have aN:=Zl hb3 aC;have cJ:=YS cm hb3;have kf:=hbo.rd (ok:=fun _=>True) (fun _ _=>trivial);obtain⟨bp,bc,rfl,_,_⟩:=kf.cap;have B2:=aa kf;have ai:W1.1.size<=w3.1.size:=cA HA.o.size hb3.size;have ak:=aq rB.o;clear kf hbo hb3 ZC;go_wp2_with(at_builtin;refine mW (ok:=fun _=>True) lX lX W1.1.size _ [nm] P lX ?c1 bp bc lX ?c2 ?c3 ?c4 ?_)
 case c1=>exact aK.o
 case c2=>exact B2.o
 case c3=>simp;omega
 case c4=>exact ai
 intro lv w5 a7 hb5 _;have HLL:Hid (([nm]++P).length<=101):=aa ZY;replace a7:dF w5 W1.1.size lv ([nm]++P):=a7;generalize hL:[nm]++P=L at *;have eK:=aa (cJ.o.trans (hb5.mono cU.o.size));have aA:=aa ((hb5.block _ ak).trans aN.o);have aO:Hid (dN (fun b=>b<w.1.size) w5 g a):=aa (hr.o.mv ⟨eK.o.size,fun b hb _=>⟨hb,eK.o.block b hb⟩⟩);have aE:=a7.rd (ok:=fun b=>b<w5.1.size) (fun b e=>(fh a7 b e).2);obtain⟨lp,lc,rfl,_,_⟩:=aE.cap;have bg:=aa aE;have CD:=hz.o.dl;have am:=eK.o.size;have a9:=aq aA.o;clear aE a7 hb5 aK B2 cJ aN aB HA aC cm aJ rB cU hr hL TW ai ak;go_upto_region 4 with(fail);go_loopw[6,7] (fun o i wr=>∃m:Nat,m<=Wq g.Gb/\i=Bm Sj m/\dF wr w5.1.size o (gD az.name (fun d=>L.any (XZ g.F9 d)) (g.Gb.take m))/\Below w5.1.size w5 wr) (fun _ i _=>Wq g.Gb-(intOf i).toNat)
 exact⟨0,cg _,rfl,dF.nil _ _,bj _ _⟩;obtain⟨m,hm,rfl,a5,hB⟩:=hrel;replace a5:=aa a5;replace hB:=aa hB;generalize wr=Wd at *;have aP:=hB.o.size;have g6:Wd.cell? (XM Bg 6)=Vv (FG a.dp (Wq g.Gb) a.dc):=mi ((hB.o.block _ a9).trans aA.o) 6 _ lX;by_cases hlt:m<Wq g.Gb
 ·obtain⟨d,hd⟩:=aj g.Gb m hlt;obtain⟨bd,aQ,bO,aR,bP,bi,bl,bm,aS⟩:=aO.o.Gb.elem hd;obtain⟨bQ,rfl,_⟩:=bm;have aU:Hid (∀W,Below w5.1.size w5 W->W.cell? (bd,aQ+m*7)=Vv (By d.name)/\W.cell? (XM Bg 6)=Vv (FG (Vv (bd,aQ)) (Wq g.Gb) a.dc)):=aa fun W hW=>⟨by
   rw[<- aS 0 _ lX,fg];simp only[AN,hW.block bd bi],by rw[<- aR];exact mi ((hW.block _ a9).trans aA.o) 6 _ lX⟩
  have sY:=aa (rJ az.name (fun d=>L.any (XZ g.F9 d)) hd);clear aS bl hd aR;generalize Pc:d.name=dn at *;go_upto_region 8 with(fail);clear g6;go_loopw[8,9] (fun s i wi=>∃n:Nat,n<=L.length/\i=Bm Sj n/\s=Ft ((L.take n).any (XZ g.F9 dn))/\Below Wd.1.size Wd wi) (fun _ i _=>L.length-(intOf i).toNat)
  exact⟨0,cg _,rfl,rfl,bj _ _⟩;obtain⟨n,hn,rfl,rfl,ah⟩:=hrel;replace ah:=aa ah;generalize wr=Wi at *;have bs:=ah.o.size;have Tq:=aa (hB.o.trans (ah.o.mono aP));by_cases aM7:n<L.length
  ·obtain⟨y,hy⟩:=aj L n aM7;obtain⟨b,off,us,rfl,gR,cX,ez,eE,aV⟩:=bg.o.elem hy;obtain rfl:us=_:=eE;have q0:Wi.cell? (b,off+n)=Vv (By y):=by
    rw[<- aV 0 _ lX,fp,fg];simp only[AN,Tq.o.block b cX]
   have TK:=aa (BK (XZ g.F9 dn) hy);have AG:Hid (XZ g.F9 dn y=((aM g.F9 y).getD eY).Gf.any (onS dn)):=aa lX;generalize (L.take n).any (XZ g.F9 dn)=b0 at *;clear hy aV ez;go_upto_region 10 with(fail);refine MC (ok:=fun b=>b<w.1.size) Wi g a Bg b off n L.length lc y ((Tq.o.block _ a9).trans aA.o) aM7 (cC cX Tq.o.size) q0 (aO.o.mv ⟨Tq.o.size,fun b hb ho=>⟨ho,Tq.o.block b WQ⟩⟩) WQ lX rfl (aa ?_) (fun _ _ _ _ _ h=>h);intro bR bS aW aF kk Bx W7 u34 u35 u36 u37 u38 u39 u40 u41 u42 _ rn PX qu I2;have HS:=aa (Dt hz.o.us.sz y);generalize (aM g.F9 y).getD eY=x at *;have Vk:=aa (ah.o.trans (rn.mono bs));obtain⟨bT,bU,e,-,gA⟩:=I2;have gA:ck bC 11 (fun k=>k<w.1.size/\k<Wi.1.size) W7 [FG aW (Wq x.Gf) aF] x.Gf:=by
    injection e with _ e;injection e with _ e;injection e with _ e;injection e with _ e;injection e with _ e;injection e with e _;rw[e];exact gA
   replace gA:=aa gA;replace qu:=aa qu;have vh:=aq qu.o;clear q0 rn e;go_upto_region 12 with(fail);go_loopw[8,12] (fun s i wk=>∃k:Nat,k<=Wq x.Gf/\i=Bm Sj k/\s=Ft (b0||(x.Gf.take k).any (onS dn))/\Below W7.1.size W7 wk) (fun _ i _=>Wq x.Gf-(intOf i).toNat)
   exact⟨0,cg _,rfl,XN,bj _ _⟩;obtain⟨k,hk,rfl,rfl,ab⟩:=hrel;replace ab:=aa ab;generalize wr=Wk at *;have aX:=ab.o.size;have x5:Wk.cell? (XM Bx 5)=Vv (FG aW (Wq x.Gf) aF):=mi ((ab.o.block _ vh).trans qu.o) 5 _ lX;have GF:=HS.o.Gf;by_cases aK0:k<Wq x.Gf
   ·obtain⟨s,hs⟩:=aj x.Gf k aK0;obtain⟨b3,off3,bV,rfl,B7,PV,pT,Tr,ao⟩:=gA.o.elem hs;obtain⟨av,Rn,rfl,o0,hst⟩:=Tr;obtain⟨ap,ac,rfl,_,_⟩:=o0.cap;replace o0:=aa o0;clear hst;have bu:Hid (∀W,Below W7.1.size W7 W->W.cell? (b3,off3+k*11+3)=Vv (FG ap (Wq s.Ga) ac)/\W.cell? (XM Bx 5)=Vv (FG (Vv (b3,off3)) (Wq x.Gf) aF)):=aa fun W hW=>⟨by
     rw[<- ao 3 _ lX];simp only[AN,hW.block b3 PV],mi ((hW.block _ vh).trans qu.o) 5 _ lX⟩
    have hal:=(HS.o.seg s (ct hs)).1;have RG:=aa (BK (onS dn) hs);have bw:Hid (onS dn s=s.Ga.any (onA dn)):=aa lX;generalize (x.Gf.take k).any (onS dn)=b1 at *;generalize aG:(b0||b1)=b2 at *;clear hs ao pT;go_upto_region 15 with(fail);clear x5;go_loopw[8,13] (fun s' i wj=>∃j:Nat,j<=Wq s.Ga/\i=Bm Sj j/\s'=Ft (b2||(s.Ga.take j).any (onA dn))/\Below Wk.1.size Wk wj) (fun _ i _=>Wq s.Ga-(intOf i).toNat)
    exact⟨0,cg _,rfl,XN,bj _ _⟩;obtain⟨j,hj,rfl,rfl,Y0⟩:=hrel;replace Y0:=aa Y0;generalize wr=Wj at *;have bz:=Y0.o.size;have Ix:=aa (ab.o.trans (Y0.o.mono aX));obtain⟨q3,x5⟩:=bu.o _ Ix.o;by_cases aO9:j<Wq s.Ga
    ·obtain⟨r,hr⟩:=aj s.Ga j aO9;obtain⟨b4,bD,bE,rfl,bW,bF,bG,bH,au⟩:=o0.o.elem hr;obtain rfl:bE=_:=bH;have aY:Wj.1[b4]?=W7.1[b4]?:=Ix.o.block b4 bF;obtain⟨q0,q1,q2⟩:=Mn aY au;have aZ:=aa (BK (onA dn) hr);have b8:Hid (onA dn r=(V7 (r.on=dn)&&!r.vol)):=aa lX;generalize (s.Ga.take j).any (onA dn)=b4' at *;have hA:=ae Wj (Sx (Taw r) 53);have yb:=aa (b9 Wj (Sx (Taw r) 53));have J1:=aa (Y0.o.trans (hA.mono bz));have bJ:=aa (hB.o.trans ((Vk.o.trans ((ab.o.trans (J1.o.mono aX)).mono Vk.o.size)).mono aP));have he:(r.on.toList==dn.toList)=V7 (r.on=dn):=by
      by_cases h:r.on=dn
      ·simp[h]
      rw[jI h];simp[h]
     have bK:Hid ((b2||(s.Ga.take (j+1)).any (onA dn))=((b2||b4')||(V7 (r.on=dn)&&!r.vol))):=aa (by rw[aZ.o,b8.o,Bool.or_assoc]);clear aZ b8 hA hr au bG aY;generalize (b2||b4')=bb at *;go_upto_region 18 with(fail);generalize AI Wj _=W9 at *;obtain⟨d0,g6⟩:=aU.o _ bJ.o;have aL:=mi yb.o;have a0:=aL 0 _ lX;have a1:=aL 1 _ lX;clear aL yb q0 q1 q2 q3 x5;generalize V7 (r.on=dn)=bq at *;generalize r.vol=bv at *
     cases bb<;>cases bv<;>cases bq<;>(
      go_quiet (fail);go_wp2;go_roundw
      exact⟨j+1,WQ,Zf,by rw[bK.o];rfl,aT J1.o _⟩;exact Ti)
    obtain rfl:j=Wq s.Ga:=by omega
    rw[cI];have TF:=aa Ix.o;go_wp2;go_roundw;exact⟨k+1,WQ,Zf,by rw[RG.o,bw.o,<- aG,Bool.or_assoc],TF.o⟩;exact Ti
   obtain rfl:k=Wq x.Gf:=by omega
   rw[cI];have TF:=YS Vk ab.o;go_wp2;go_roundw;exact⟨n+1,WQ,Zf,by rw[TK.o,AG.o],TF.o⟩;exact Ti
  obtain rfl:n=L.length:=by omega
  rw[cI];obtain⟨d0,g6⟩:=aU.o _ Tq.o;have a8:=aa (a5.o.below ah.o);have aH:=lq az.name (fun d=>L.any (XZ g.F9 d)) (g.Gb.take m);rw[ey]at aH;generalize bL:gD az.name (fun d=>L.any (XZ g.F9 d)) (g.Gb.take m)=pl at *;clear bL;have Qo:Hid (gD az.name (fun d=>L.any (XZ g.F9 d)) (g.Gb.take (m+1))=if(L.any (XZ g.F9 dn)&&!bI pl dn)=VR then pl++[dn] else pl):=aa sY.o;obtain⟨op,oc,e,_,_⟩:=(a8.o.rd (ok:=fun _=>True) (fun _ _=>trivial)).cap;subst e;have ag:=aa (sO (ok:=fun _=>True) pl dn Wi (a8.o.rd (fun _ _=>trivial)) WQ);have aI:=Tq.o.size;clear sY a5;cases hb:L.any (XZ g.F9 dn)with
  |false =>
   rw[hb,Bool.false_and,bh XN]at Qo;clear hb ag;go_wp2;go_roundw;exact⟨m+1,WQ,Zf,by rw[Qo.o];exact a8.o,Tq.o⟩;exact Ti
  |true =>
   rw[hb,Bool.true_and]at Qo;clear hb;cases hc:bI pl dn with
   |true =>
    rw[hc,bh XN]at Qo;rw[hc]at ag;clear hc;go_wp2_with(fail)
    refine ag.o.mono ?_;rintro e w9 ⟨rfl,rfl⟩;clear ag d0 g6;go_wp2;go_roundw;exact⟨m+1,WQ,Zf,by rw[Qo.o];exact a8.o,Tq.o⟩;exact Ti
   |false =>
    rw[hc,aw XN]at Qo;rw[hc]at ag;clear hc;go_wp2_with(fail)
    refine ag.o.mono ?_;rintro e w9 ⟨rfl,rfl⟩;clear ag;go_wp2_with(at_builtin;refine dz lX _ _ lX w5.1.size _ pl dn lX ?c1 Wi.1.size 1 lX ?c2 ?c3 ?c4 ?_)
    case c1=>exact a8.o.alloc _
    case c2=>exact aD lX rfl
    case c3=>omega
    case c4=>simp;omega
    intro v' w9 Of ba _;have J1:=aa ((Tq.o.alloc aI _).trans ba);replace Of:=aa Of;clear ba;go_wp2;go_roundw;exact⟨m+1,WQ,Zf,by rw[Qo.o];exact Of.o,J1.o⟩;exact Ti
 obtain rfl:m=Wq g.Gb:=by omega
 rw[cI]at a5;have TF:=aa (eK.o.trans (hB.o.mono am));have be:=aa (a5.o.mono (B':=w.1.size) am);rw[HPE.o]at be;go_wp2;go_ret;exact⟨_,rfl,be.o,TF.o⟩
def Oi(a b:QN):a.any (bI b)=b.any (bI a):=by
 rw[mN,nh,nh];constructor
 ·rintro⟨x,h1,h2⟩;exact⟨x,ny.1 h2,ny.2 h1⟩
 rintro⟨x,h1,h2⟩;exact⟨x,ny.1 h2,ny.2 h1⟩
theorem Lu{ok:LN}(g:af)(a:iX)(r:aY)(d:az)(tp:IH)(tc:Nat)(w:H7)(ht:ck aF 1 ok w [FG tp (Wq d.tags) tc] d.tags)(nt:Wq d.tags<=1000000)(hg:dN ok w g a)(hft:E9 g)(hne:r.Gg=2\/r.Gg=3->r.near.toList.isEmpty=VN):Calls prog 30 #[Tk (Zg g a),Tk (Tam r),Tk (u0 d tp tc)] w (iI (nD g r d) w):=by
 have Kp:Hid (nD g r d=((!d.closed&&!d.missing)&&((r.tag.toList.isEmpty||bI d.tags r.tag)&&(nN (gF g r) r.Gg d&&vE (gF g r) (kR g (gF g r)) r.Gg d)))):=aa lX;have DG:=aa hft;clear hft;replace hne:=aa hne;have hA1:=ae w (Sx (Zg g a) 31);have US:=b9 w (Sx (Zg g a) 31);have hA2:=ae (w.alloc (Sx (Zg g a) 31)) (Sx (Tam r) 34);have sC:=b9 (w.alloc (Sx (Zg g a) 31)) (Sx (Tam r) 34);have hA3:=ae ((w.alloc (Sx (Zg g a) 31)).alloc (Sx (Tam r) 34)) (Sx (u0 d tp tc) 69);have a9:=aa (b9 ((w.alloc (Sx (Zg g a) 31)).alloc (Sx (Tam r) 34)) (Sx (u0 d tp tc) 69));have Tp:=aa ((hA3.block _ (aq sC)).trans sC);have ua:=aa ((hA3.block _ (cC (aq US) hA2.size)).trans ((hA2.block _ (aq US)).trans US));have a8:=hA1.trans (hA2.mono hA1.size);have HB:=aa (a8.trans (hA3.mono a8.size));rw[cW]at Tp;rw[cW,cW]at a9;have HT:=aa ((ck.moves aF.moves).mv (Mv.of HB.o) ht);have QY:=aa (hg.mv (Mv.of HB.o));clear hA1 hA2 hA3 US sC a8 ht hg;go_enter func30,ntmps30
 go_upto_region 1 with(fail);generalize AI (AI (AI w _) _) _=W1 at *;generalize Yx:w.1.size+1+1=Bd at a9 ⊢;generalize aE:w.1.size+1=Bq at Tp ⊢;generalize aG:w.1.size=Bg at ua ⊢;clear aG aE Yx;have qL:=mi Tp.o;have q3:=qL 3 _ lX;have q4:=qL 4 _ lX;have q5:=qL 5 _ lX;have dL:=mi a9.o;have d4:=dL 4 _ lX;have d5:=dL 5 _ lX;have d6:=dL 6 _ lX;clear qL dL;have HC:=aa (Ez d.tags r.tag W1 HT.o nt);cases hc:d.closed with
 |true =>
  rw[hc]at d4 Kp;go_wp2;go_ret;exact⟨by rw[Kp.o];rfl,HB.o⟩
 |false =>
  rw[hc]at d4 Kp;cases hm:d.missing with
  |true =>
   rw[hm]at d5 Kp;go_wp2;go_ret;exact⟨by rw[Kp.o];rfl,HB.o⟩
  |false =>
   rw[hm]at d5 Kp;rcases(show(r.tag.toList.isEmpty=VN/\bI d.tags r.tag=VN)\/r.tag.toList.isEmpty=VR\/(r.tag.toList.isEmpty=VN/\bI d.tags r.tag=VR) by cases r.tag.toList.isEmpty<;>cases bI d.tags r.tag<;>simp)with⟨PE,hh⟩|PE
   ·rw[PE,hh]at Kp;rw[hh]at HC;clear hh;go_wp2_with(refine HC.o.mono ?_;rintro e w5 ⟨rfl,rfl⟩)
    go_ret;exact⟨by rw[Kp.o];rfl,HB.o⟩
   have ab:Hid (nD g r d=(nN (gF g r) r.Gg d&&vE (gF g r) (kR g (gF g r)) r.Gg d)):=aa (by rw[Kp.o];rcases PE with h|⟨h,h'⟩<;>simp[*]);clear Kp;rcases(show(r.Gg≠2/\r.Gg≠3)\/(r.Gg=2\/r.Gg=3) by omega)with⟨h2,h3⟩|h23
   ·have HR:Hid (nD g r d=VR):=aa (by rw[ab.o];unfold nN vE;simp[h2,h3]);have n2:(r.Gg != 2)=VR:=by simpa using h2
    have n3:(r.Gg != 3)=VR:=by simpa using h3
    clear h2 h3 ab;rcases PE with PE|⟨PE,hh⟩<;>(
     try rw[hh]at HC
     try clear hh
     go_wp2_with(refine HC.o.mono ?_;rintro e w5 ⟨rfl,rfl⟩)
     go_ret;exact⟨Tdm,HB.o⟩)
   have T8:=hne.o h23;have ao:Hid (gF g r=sP g r.near):=aa (by unfold gF;rw[bh (by rw[T8];simp)]);have Y1:=aa (MX (ok:=ok) g a r.near W1 QY.o DG.o.nd Tes);rw[<- ao.o]at Y1;have aU:(gF g r).length<=8:=cA (AA g r) DG.o.dl;have CD:=DG.o.dl;have g0:=xr (mi ua.o);have aH:((r.Gg != 2)=VN/\(r.Gg==3)=VN)\/((r.Gg != 2)=VR/\(r.Gg != 3)=VN/\(r.Gg==3)=VR):=by
    rcases h23 with h|h
    ·rw[h];exact .inl ⟨rfl,rfl⟩
    rw[h];exact .inr ⟨rfl,rfl,rfl⟩
   have aI:=aa h23;have ak:Hid (nD g r d=VR\/bI (gF g r) d.name=VN):=aa (by
    rw[ab.o];unfold nN vE
    cases bI (gF g r) d.name<;>simp)
   have au:Hid (bI (gF g r) d.name=VN->nD g r d=((r.Gg==3)&&(kR g (gF g r)).any (bI d.tags))):=aa fun h=>by
    rw[ab.o];unfold nN vE;rw[h,Oi];rcases aI.o with e|e<;>rw[e]<;>simp
   clear T8 h23 ab ao hne;have Yy:Hid (∀(k:Nat) (y:H6),(gF g r)[k]?=Vv y->kR g ((gF g r).take (k+1))=kR g ((gF g r).take k)++((bH g.Gb y).getD gT).tags):=aa fun k y h=>yO g h;have aJ:Hid ((gF g r).take (gF g r).length=gF g r):=aa (cI);generalize gF g r=nl at *
   have Up:Hid (∀y:H6,((bH g.Gb y).getD gT).tags.length<=8):=aa fun y=>by
    cases hf:bH g.Gb y with
    |none=>simp[gT]
    |some D=>exact DG.o.dt D (eV hf)
   rcases PE with PE|⟨PE,hh⟩<;>(
    try rw[hh]at HC
    try clear hh
    have fl:=aa HB.o;rcases aH with⟨n2,n3⟩|⟨n2,n2',n3⟩<;>(
     go_wp2_with(refine HC.o.mono ?_;rintro e w5 ⟨rfl,rfl⟩)
     clear g0 q3 q4 q5 d4 d5 d6 PE n2
     try clear n2'
     refine Y1.o.mono ?_;clear Y1 HC;rintro e w5 ⟨nv,rfl,hno,hb5⟩;have eK:=YS fl hb5;have av:=Zl hb5 ua;have aw:=Zl hb5 Tp;have ay:=Zl hb5 a9;have aK:Hid (ck aF 1 (fun b=>b<W1.1.size) w5 [FG tp (Wq d.tags) tc] d.tags):=aa ((ck.moves aF.moves).mv ⟨hb5.size,fun b hb _=>⟨hb,hb5.block b hb⟩⟩ HT.o);have aL:Hid (dN (fun b=>b<W1.1.size) w5 g a):=aa (QY.o.mv ⟨hb5.size,fun b hb _=>⟨hb,hb5.block b hb⟩⟩);have Y2:=hno.rd (ok:=fun b=>b<w5.1.size) (fun b e=>(fh hno b e).2);obtain⟨np,nc,rfl,_,_⟩:=Y2.cap;have WO:=aa Y2;have ag:=aa (Ez nl d.name w5 Y2 WQ);have aM:=hb5.size;have d0:=mi ay.o 0 _ lX;clear Y2 hno hb5 ua Tp a9 HT QY HB;cases hh1:bI nl d.name with
     |true =>
      rw[hh1]at ag ak;have HR:=aa (ak.o.resolve_right XN);go_wp2_with(refine ag.o.mono ?_;rintro e w6 ⟨rfl,rfl⟩)
      go_ret;exact⟨Tdm,eK.o⟩
     |false =>
      rw[hh1]at ag;have HR:=aa (au.o hh1);rw[n3]at HR;clear hh1 ak au;go_upto_region 9 with(refine ag.o.mono ?_;rintro e w6 ⟨rfl,rfl⟩)
      clear ag d0;go_loopw[8] (fun i wr=>∃n:Nat,n<=nl.length/\i=Bm Sj n/\(kR g (nl.take n)).any (bI d.tags)=VN/\Below w5.1.size w5 wr) (fun i _=>nl.length-(intOf i).toNat)
      exact⟨0,cg _,rfl,rfl,bj _ _⟩;obtain⟨n,hn,rfl,hno,a5⟩:=hrel;have Ty:=aa hno;clear hno;replace a5:=aa a5;generalize wr=Wi at *;have am:=a5.o.size;have q3:Wi.cell? (XM Bq 3)=Vv (Bm Sj r.Gg):=mi ((a5.o.block _ (aq aw.o)).trans aw.o) 3 _ lX;have TF:=YS eK a5.o;by_cases hlt:n<nl.length
      ·first
       |(
        (have:(r.Gg==3)=VN:=n3)
        rw[Bool.false_and]at HR;go_wp2;go_ret;exact⟨Tdm,TF.o⟩)
       |(
        rw[Bool.true_and]at HR;obtain⟨y,hy⟩:=aj nl n hlt;have TK:=aa (Yy.o n y hy);obtain⟨b,off,us,rfl,gR,cX,ez,eE,aA⟩:=WO.o.elem hy;obtain rfl:us=_:=eE;have q0:Wi.cell? (b,off+n)=Vv (By y):=by
         rw[<- aA 0 _ lX,fp,fg];simp only[AN,a5.o.block b cX]
        have aN:Hid (∀z,z∈((bH g.Gb y).getD gT).tags->z∈kR g nl):=aa fun z hz=>BY.2 ⟨y,ct hy,hz⟩;have aV:=Up.o y;clear hy aA ez
        go_upto_region 11 with(fail);clear q3;refine LC (ok:=fun b=>b<W1.1.size) Wi g a Bg b off n nl.length nc y ((a5.o.block _ (aq av.o)).trans av.o) hlt (cC cX am) q0 (aL.o.mv ⟨am,fun b hb ho=>⟨ho,a5.o.block b WQ⟩⟩) WQ lX rfl (aa ?_) (fun _ _ _ _ _ h=>h);intro aB aC kk Bx W7 u58 u59 u60 u61 u62 u63 u64 u65 u66 _ rn PX qu I2;generalize (bH g.Gb y).getD gT=x at *;have Vk:=aa (a5.o.trans (rn.mono am));obtain⟨aW,e,hxt⟩:=I2;have hxt:ck aF 1 (fun k=>k<W1.1.size/\k<Wi.1.size) W7 [FG aB (Wq x.tags) aC] x.tags:=by
         simp only[rp,and_true,true_and]at e;rw[e];exact hxt
        replace hxt:=aa hxt;replace qu:=aa qu;have vh:=aq qu.o;have aD:=Zl Vk.o ay;have aO:=aq aD.o;clear q0 rn e;go_upto_region 13 with(fail);go_loopw[11] (fun i wk=>∃k:Nat,k<=Wq x.tags/\i=Bm Sj k/\(x.tags.take k).any (bI d.tags)=VN/\Below W7.1.size W7 wk) (fun i _=>Wq x.tags-(intOf i).toNat)
        exact⟨0,cg _,rfl,rfl,bj _ _⟩;obtain⟨k,hk,rfl,hno,a7⟩:=hrel;replace hno:=aa hno;replace a7:=aa a7;generalize wr=Wk at *;have aX:=a7.o.size;have x6:Wk.cell? (XM Bx 6)=Vv (FG aB (Wq x.tags) aC):=mi ((a7.o.block _ vh).trans qu.o) 6 _ lX;have d6:Wk.cell? (XM Bd 6)=Vv (FG tp (Wq d.tags) tc):=mi ((a7.o.block _ aO).trans aD.o) 6 _ lX;have Ix:=YS Vk a7.o;by_cases aK0:k<Wq x.tags
        ·obtain⟨z,hz⟩:=aj x.tags k aK0;obtain⟨b3,off3,aP,rfl,B7,PV,pT,Tr,ah⟩:=hxt.o.elem hz;obtain rfl:aP=_:=Tr;have q0:Wk.cell? (b3,off3+k)=Vv (By z):=by
          rw[<- ah 0 _ lX,fp,fg];simp only[AN,a7.o.block b3 PV]
         have Zu:=aa (BK (bI d.tags) hz);have aQ:=aa (aN.o z (ct hz));have ai:Hid (∀n,Calls prog 55 #[FG tp (Wq d.tags) tc,By z] (Wk.drewN n) fun e w'=>e=S6 (Ft (bI d.tags z))/\w'=Wk.drewN n):=aa fun n=>(Ez (ok:=fun _=>True) d.tags z (Wk.drewN n) ((ck.moves aF.moves).mv ⟨by show w5.1.size<=Wk.1.size;exact Ix.o.size,fun b hb _=>⟨trivial,Ix.o.block b hb⟩⟩ aK.o) nt).mono fun _ _ h=>⟨h.1,h.2.symm⟩;clear hz ah pT;have aZ:(k:Int)<(Wq x.tags:Int):=by omega
         cases hh:bI d.tags z with
         |true =>
          rw[hh]at ai;have E3:Hid (nD g r d=VR):=aa (by rw[HR.o];exact GP.2 ⟨z,aQ.o,hh⟩);clear hh;go_upto_region 15 with(fail);go_quiet ((refine po (ai.o _)));have aR:Hid (∀n,Below w.1.size w (Wk.drewN n)):=aa fun n=>aT (eK.o.trans (Ix.o.mono eK.o.size)) n;clear q0 x6 d6;go_wp2;go_ret;exact⟨by rw[E3.o];rfl,aR.o _⟩
         |false =>
          rw[hh]at ai Zu;rw[hno.o]at Zu;clear hh;go_upto_region 15 with(fail);go_quiet ((refine po (ai.o _)));clear q0 x6 d6;go_wp2;go_roundw
          exact⟨k+1,WQ,Zf,Zu.o,aT a7.o _⟩;exact Ti
        obtain rfl:k=Wq x.tags:=by omega
        rw[cI]at hno;have aS:Hid ((kR g (nl.take (n+1))).any (bI d.tags)=VN):=aa (by rw[TK.o,rj,Ty.o,hno.o];rfl);go_wp2;go_roundw;exact⟨n+1,WQ,Zf,aS.o,Ix.o⟩;exact Ti)
      obtain rfl:n=nl.length:=by omega
      rw[aJ.o]at Ty;rw[Ty.o]at HR;go_wp2;go_ret;exact⟨by rw[HR.o];first|rfl|simp,TF.o⟩))
def Ph(g:af)(r:aY)(w:H7)(e:Ending)(w':H7):Prop:=Below w.1.size w w' /\
 ((¬yZ g r=0/\e=S6 (Vj #[FG VX 0 0,Bm Sj (yZ g r)])) \/
  (yZ g r=0/\∃v ys,e=S6 (Vj #[v,Bm Sj 0])/\fH w' w.1.size v ys/\ys.length=Wq g.Gb/\RPX g r ys))
def OO{r:aY}(h:yZ g r=0)(hp:r.Gg=2\/r.Gg=3):r.near.toList.isEmpty=VN:=by
 unfold yZ at h;split at h
 ·cases h
 split at h
 ·cases h
 split at h
 ·cases h
 rename_i hn;unfold xM clB at hn;cases he:r.near.toList.isEmpty with
 |false=>rfl
 |true =>
  rw[he]at hn;rcases hp with hp|hp<;>simp[hp]at hn
def Tfa(h:gt:=by rw[TK.o];exact HOJ.o.below (aT (bj _ _) _)):=h
def TeD(h:gt:=by have:=Zq.o x HFN.o Ux.o;rw[HIN.o]at this;exact this):=h
def Teq(h:gt:=by rw[hyl];exact HD.o):=h
theorem Lr{ok:LN}(g:af)(a:iX)(r:aY)(w:H7)(hg:dN ok w g a)(hc:K5 g)(hr:dK r)(aU:∀p∈pieces g.F9,0<=p.len/\p.len<=1000000):Calls prog 9 #[Tk (Zg g a),Tk (Tam r)] w (Ph g r w):=by
 replace hg:=aa hg;have HC:=aa hc;have DG:=aa hc.pf;replace hr:=aa hr;replace aU:=aa aU;clear hc;have hA1:=ae w (Sx (Zg g a) 31);have hA2:=ae (w.alloc (Sx (Zg g a) 31)) (Sx (Tam r) 34);have US:=b9 w (Sx (Zg g a) 31);have sC:=b9 (w.alloc (Sx (Zg g a) 31)) (Sx (Tam r) 34);rw[cW]at sC;have Fm:Hid (jF ((w.alloc (Sx (Zg g a) 31)).alloc (Sx (Tam r) 34)) w.1.size (w.1.size+1) g a r):=aa ⟨(hA2.block _ (aq US)).trans US,sC⟩;have cU:=aa (hA1.trans (hA2.mono hA1.size));clear hA1 hA2 US sC;go_enter func9,ntmps9
 go_upto_region 1 with(fail);generalize RE:AI (AI w _) _=W1 at *;generalize Rz:w.1.size+1=Br at *;generalize ad2:w.1.size=Bg at *;have Tm:Hid (Below w.1.size w W1):=aa Ter;clear RE cU;have gL:=Fm.o.gc;obtain⟨g0,g1,g2,g3,g4,g5,g6,g7,g8⟩:=xr gL;have rL:=Fm.o.rc;obtain⟨r0,r1,r2,r3,r4,r5,r6⟩:=se rL;clear gL rL;have SB:=Jt (ok:=ok) g a r W1 (hg.o.mv (Mv.of Tm.o)) HC.o hr.o;replace SB:=aa SB;go_wp2_with fail;clear g0 g1 g2 g3 g4 g5 g6 g7 g8 r0 r1 r2 r3 r4 r5 r6;refine SB.o.mono ?_;clear SB;rintro e w2 ⟨rfl,hb2⟩;by_cases hq:¬yZ g r=0
 ·have qu:(yZ g r != 0)=VR:=bne_iff_ne.2 hq;have TF:=YS Tm hb2;have HQ:=aa hq;clear hq;go_wp2;go_ret2;exact⟨TF.o,.inl ⟨HQ.o,rfl⟩⟩
 replace hq:=Decidable.not_not.1 hq;rw[hq];have bp:=aa (OO hq);have HQ:=aa hq;clear hq;have cm:=YS Tm hb2;have aL:=aa (Fm.o.below hb2);clear hb2 Tm Fm;have gL:=aL.o.gc;obtain⟨g0,g1,g2,g3,g4,g5,g6,g7,g8⟩:=xr gL;have r5:=aL.o.rc 5 _ lX;clear gL;have Sv:=aa (ND (ok:=ok) g a r.near w2 ((hg.o.mv (Mv.of cm.o)).F9) Tes DG.o.tm DG.o.st);go_wp2_with fail;clear g0 g1 g2 g3 g4 g5 g6 g7 g8 r5;refine Sv.o.mono ?_;clear Sv;rintro e w3 ⟨ev,rfl,ba,hb3⟩;have PH:Hid ((jE g r.near).length<=10):=aa (by
  refine cA (Bu (m:=6) ?_) WQ;cases hf:aM g.F9 r.near with
  |none=>intro s hs;simp[eY]at hs
  |some v=>exact fun s hs=>DG.o.a6 v (eV hf) s hs)
 have kf:ck aQ 3 (fun _=>True) w3 [ev] ((jE g r.near).map fun x=>⟨VN,x.1,x.2⟩):=bF.rd aQ.moves ba YR (fun _ _ _=>trivial) (fun _ _=>trivial);clear ba;have cJ:=YS cm hb3;have C6:=aa (aL.o.below hb3);clear hb3 cm aL;generalize hE:jE g r.near=E at *;replace hE:=aa hE;obtain⟨ep,ec,rfl,WH,bT⟩:=kf.cap;replace kf:=aa kf;rw[fW]at WH ⊢;have Vh:=PH.o;have g6:=C6.o.gc 6 _ lX;go_upto_region 7 with(fail);clear g6;have Wt:Hid (ck aO 7 (fun b=>b<w.1.size) w3 [FG a.dp (Wq g.Gb) a.dc] g.Gb):=aa ((hg.o.mv (ok':=fun b=>b<w.1.size) ⟨cJ.o.size,fun b hb _=>⟨hb,cJ.o.block b hb⟩⟩).Gb);have Q5:Hid (dN (fun b=>b<w.1.size) w3 g a):=aa (hg.o.mv (ok':=fun b=>b<w.1.size) ⟨cJ.o.size,fun b hb _=>⟨hb,cJ.o.block b hb⟩⟩);have CD:=DG.o.dl;have aB:=cJ.o.size;go_loopw[8,9] (fun ov i wr=>∃m:Nat,m<=Wq g.Gb/\i=Bm Sj m/\Below w3.1.size w3 wr/\∃ys,fH wr w3.1.size ov ys/\ys.length=m/\RPX g r ys) (fun _ i _=>Wq g.Gb-(intOf i).toNat)
 exact⟨0,cg _,rfl,bj _ _,[],fH.nil _ _,rfl,fun i d x _ h=>by cases h⟩;obtain⟨m,hm,rfl,hB,ys,ab,hyl,Uv⟩:=hrel;replace hB:=aa hB;replace ab:=aa ab;replace Uv:=aa Uv;have bU:=hB.o.size;have PJ:=aa (C6.o.below hB.o);have g6:=PJ.o.gc 6 _ lX;by_cases hlt:m<Wq g.Gb
 ·obtain⟨d,hd⟩:=aj g.Gb m hlt;obtain⟨b,off,us,yp,gR,cX,ez,eE,bd⟩:=Wt.o.elem hd;obtain⟨tv,rfl,ew⟩:=eE;obtain⟨tp,tc,rfl,_,_⟩:=ew.cap;have cT:wr.1[b]?=w3.1[b]?:=hB.o.block b cX;have bV:=DG.o.dt d (ct hd);have kj:=aa (DG.o.de d (ct hd));have WU:=aa (DG.o.df m d hd);have HD:=aa hd;clear hd;rw[yp]at g6;clear yp;obtain⟨q0,q1,q2,q3,q4,q5,q6⟩:=sw7 cT bd;clear bd ez cT;have hA:=ae wr (Sx (u0 d tp tc) 69);have sX:=aa (b9 wr (Sx (u0 d tp tc) 69));have aN:=hB.o.trans (hA.mono hB.o.size);have J1:=aa aN;have aC:=aa (ab.o.below hA);have aP:=aa (PJ.o.below hA);have Hx:Hid (ck aF 1 (fun _=>True) (wr.alloc (Sx (u0 d tp tc) 69)) [FG tp (Wq d.tags) tc] d.tags):=aa ((ck.moves aF.moves).mv ⟨aN.size,fun b hb _=>⟨trivial,aN.block b hb⟩⟩ ew);clear hA aN ew ab hB PJ;go_upto_region 10 with(fail);clear q0 q1 q2 q3 q4 q5 q6 g6;generalize bs:AI wr _=W9 at *;generalize bW:wr.1.size=Bd at *;clear bs;have gL:=aP.o.gc;obtain⟨g0,g1,g2,g3,g4,g5,g6,g7,g8⟩:=xr gL;have rL:=aP.o.rc;obtain⟨r0,r1,r2,r3,r4,r5,r6⟩:=se rL;have dL:=mi sX.o;obtain⟨d0,d1,d2,d3,d4,d5,d6⟩:=se dL;clear gL rL dL;have be:=aa (Lu (ok:=fun _=>True) g a r d tp tc W9 Hx.o WQ (Q5.o.mv ⟨J1.o.size,fun b hb _=>⟨trivial,J1.o.block b hb⟩⟩) DG.o bp.o);go_wp2_with fail;clear g0 g1 g2 g3 g4 g5 g6 g7 g8 r0 r1 r2 r3 r4 r5 r6 d0 d1 d2 d3 d4 d5 d6;refine be.o.mono ?_;clear be Hx;rintro e aV ⟨rfl,ah⟩;have Ax:=YS J1 ah;have ai:=aa (aC.o.below ah);have aW:=Zl ah sX;have L3:=aa (aP.o.below ah);have ak:=Ax.o.size;clear ah J1 aC sX aP;have gL:=L3.o.gc;have am:dN (fun b=>b<w.1.size) aV g a:=Q5.o.mv ⟨Ax.o.size,fun b hb ho=>⟨ho,Ax.o.block b hb⟩⟩;have SJ:=aa (NR (ok:=fun b=>b<w.1.size) g a d.name aV am.Gb WQ (fun D hD=>by have:=DG.o.de D hD;omega) am.F9 Tes DG.o.tm (fun p hp=>by have:=DG.o.ps p hp;omega) aU.o (by have:=DG.o.pn;omega));clear am;cases Uw:nD g r d with
  |false =>
   have Zq:Hid (Le g r d []):=aa (by unfold Le;rw[Uw,bh XN]);clear Uw gL;go_wp2_with(at_builtin;refine iA lX lX w3.1.size ys (FG VX 0 0) [] lX ?c1 ?c2 aV.1.size 1 lX ?c3 ?c4 ?c5 ?_)
   all_goals first|(case c1=>exact ai.o.below (ae _ _))|(case c2=>exact bM.nil _ _)|(case c3=>exact aD lX rfl)|(case c4=>omega)|(case c5=>simp;omega)|skip
   intro v' ag Of a5 _;have C7:=aa ((Ax.o.alloc ak _).trans a5);have a7:=aa Of;clear Of a5;go_wp2;go_roundw;exact⟨m+1,WQ,Zf,C7.o,_,a7.o,by simp[hyl],Uv.o.snoc Teq Zq.o XN⟩;exact Ti
  |true =>
   have Zq:Hid (∀x,iE x (xy g d)->dI x=VR->Le g r d (if uM r=VR then x.flatMap (nrL E d.name) else x)):=aa fun x h1 h2=>by unfold Le;rw[Uw,aw lX,hE.o];exact⟨x,h1,h2,rfl⟩
   clear Uw;obtain⟨g0,g1,g2,g3,g4,g5,g6,g7,g8⟩:=xr gL;clear gL;have d0:=cr aW.o 0 _ lX;go_wp2_with fail;clear g0 g1 g2 g3 g4 g5 g6 g7 g8 d0;refine SJ.o.mono ?_;clear SJ;rintro e ag aX;unfold rM at aX;rw[WU.o]at aX;obtain⟨fv,x,rfl,SK,bf,SM,hfl,a5⟩:=aX;have HFN:Hid (iE x (xy g d)):=aa bf;clear bf;have bX:x.length<=4097:=by
    have h1:=LG x HFN.o.1.1;have h2:=(HFN.o.sum_bd kj.o.1 (fun n q=>q.1)).2;have:=kj.o.2;omega
   have CM:=aa (SK.mono (B':=w3.1.size) ak);clear SK;have Ux:=aa SM;clear SM;have C7:=aa (Ax.o.trans (a5.mono ak));have a7:=aa (ai.o.below a5);have bg:=aa (L3.o.below a5);have SN:=Zl a5 aW;have a9:=C7.o.size;clear a5 Ax ai L3 aW hfl;go_upto_region 13 with(fail);have r3:=bg.o.rc 3 _ lX;have r5:=bg.o.rc 5 _ lX;have HIN:Hid (uM r=(r.Gg==1&&!r.near.toList.isEmpty)):=aa lX;have key:(r.Gg==1)=VN\/((r.Gg==1)=VR/\r.near.toList.isEmpty=VR)\/((r.Gg==1)=VR/\r.near.toList.isEmpty=VN):=by
    cases (r.Gg==1)<;>cases r.near.toList.isEmpty<;>simp
   have au:Hid ((r.Gg != 1)=!(r.Gg==1)):=aa lX;rcases key with h1|⟨h1,h2⟩|⟨h1,h2⟩
   ·rw[h1]at HIN au;have aZ:(r.Gg != 1)=VR:=au.o;have aE:Hid (Le g r d x):=aa TeD;obtain⟨pf,nf,cf,rfl⟩:=CM.o.slice;go_wp2_with(at_builtin;refine iA lX lX w3.1.size ys (FG pf nf cf) x lX ?c1 ?c2 ag.1.size 1 lX ?c3 ?c4 ?c5 ?_)
    all_goals first|(case c1=>exact a7.o.below (ae _ _))|(case c2=>exact CM.o.below (ae _ _))|(case c3=>exact aD lX rfl)|(case c4=>omega)|(case c5=>simp;omega)|skip
    intro v' bu Of ao _;have aA:=aa ((C7.o.alloc a9 _).trans ao);have a8:=aa Of;clear Of ao;go_wp2;go_roundw;exact⟨m+1,WQ,Zf,aA.o,_,a8.o,by simp[hyl],Uv.o.snoc Teq aE.o WQ⟩;exact Ti
   ·rw[h1,h2]at HIN;rw[h1]at au;have aZ:(r.Gg != 1)=VN:=au.o;have aE:Hid (Le g r d x):=aa TeD;obtain⟨pf,nf,cf,rfl⟩:=CM.o.slice;go_wp2_with(at_builtin;refine iA lX lX w3.1.size ys (FG pf nf cf) x lX ?e1 ?e2 ag.1.size 1 lX ?e3 ?e4 ?e5 ?_)
    all_goals first|(case e1=>exact a7.o.below (ae _ _))|(case e2=>exact CM.o.below (ae _ _))|(case e3=>exact aD lX rfl)|(case e4=>omega)|(case e5=>simp;omega)|skip
    intro v' bu Of ao _;have aA:=aa ((C7.o.alloc a9 _).trans ao);have a8:=aa Of;clear Of ao;go_wp2;go_roundw;exact⟨m+1,WQ,Zf,aA.o,_,a8.o,by simp[hyl],Uv.o.snoc Teq aE.o WQ⟩;exact Ti
   rw[h1,h2]at HIN;rw[h1]at au;have aZ:(r.Gg != 1)=VN:=au.o;have aE:Hid (Le g r d (x.flatMap (nrL E d.name))):=aa TeD;clear Zq HIN au;have HX:=aa CM.o.rd;obtain⟨p3,c3,rfl,bY,bZ,hx3⟩:=CM.o.rd;replace hx3:=aa hx3;clear HX;go_upto_region 17 with(fail);clear r3 r5 h1 h2 aZ;go_loopw[13,14] (fun lv i wi=>∃k:Nat,k<=x.length/\i=Bm Sj k/\bM wi ag.1.size lv ((x.take k).flatMap (nrL E d.name))/\Below ag.1.size ag wi) (fun _ i _=>x.length-(intOf i).toNat)
   exact⟨0,cg _,rfl,bM.nil _ _,bj _ _⟩;obtain⟨k,hk,rfl,av,ay⟩:=hrel;replace av:=aa av;replace ay:=aa ay;have bw:=ay.o.size;have hll:=lY (nrL E d.name) 10 (x.take k) fun f _=>by have:=Nh E d.name f;omega
   have DB:(x.take k).length<=4097:=by rw[ey];omega
   by_cases hlt2:k<x.length
   ·obtain⟨f,hf⟩:=aj x k hlt2;obtain⟨b4,bz,bC,bD,bi⟩:=hx3.o WQ;subst bC;have YC:=aa (OW (nrL E d.name) hf);have bk:=aa (fun(wj:H7) (hj:Below ag.1.size ag wj)=>bi.below hj bD k f hf);clear bi hf;generalize bE:(x.take k).flatMap (nrL E d.name)=L0 at *;clear bE;go_upto_region 20 with(fail);go_loopw[13,15] (fun lv i wj=>∃j:Nat,j<=E.length/\i=Bm Sj j/\bM wj ag.1.size lv (L0++nrL (E.take j) d.name f)/\Below ag.1.size ag wj) (fun _ i _=>E.length-(intOf i).toNat)
    exact⟨0,cg _,rfl,by rw[iv,show nrL [] d.name f=[] from lX,eM];exact av.o,ay.o⟩;clear av ay bw;obtain⟨j,hj,rfl,bl,Y0⟩:=hrel;have HOJ:=aa bl;clear bl;replace Y0:=aa Y0;have bG:=Y0.o.size;have zr:=Nh (E.take j) d.name f;rw[ey]at zr;by_cases hlt3:j<E.length
    ·obtain⟨e,he⟩:=aj E j hlt3;obtain⟨b5,bH,bI,rfl,c0,bJ,bK,bL,aG⟩:=kf.o.elem (k:=j) (x:=(⟨VN,e.1,e.2⟩:aR)) (by rw[rI,he];rfl);obtain rfl:bI=_:=bL;have bm:wr.1[b5]?=w3.1[b5]?:=(Y0.o.block b5 WQ).trans (C7.o.block b5 bJ);obtain⟨q0,q1,q2⟩:=Mn bm aG;dsimp only at q1 q2;have TK:=aa (OE d.name f he);clear he aG bK bm q0;have bO:=bk.o _ Y0.o;obtain⟨f0,f1⟩:=bO;have d0:wr.cell? Bd=Vv (By d.name):=by
      have:=(Y0.o.block Bd (aq SN.o)).trans SN.o;simp[AN,this]
     by_cases hen:e.1=d.name
     ·have aS:(e.1.toList==d.name.toList)=VR:=by rw[hen];simp
      by_cases hes:e.2=f.1
      ·have hb2:(e.2==f.1)=VR:=by rw[hes];simp
       rw[aw ⟨hen,hes⟩]at TK;clear hen hes;go_upto_region 22 with(fail);go_quiet (fail);have kq:∀n,Below wr.1.size wr (wr.drewN n):=fun n=>aT (bj _ _) n;generalize aH:World.drewN wr _=W22;have az:Below wr.1.size wr W22:=by rw[<- aH];exact kq _
       have bP:=aa (HOJ.o.below az);have b8:=aa (Y0.o.trans (az.mono bG));clear aS hb2 q1 q2 d0 kq aH az f0 f1;have bQ:=b8.o.size;obtain⟨f0,f1⟩:=bk.o _ b8.o;go_wp2_with(at_builtin;refine jg lX lX ag.1.size (L0++nrL (E.take j) d.name f) f lX ?c1 W22.1.size 1 lX ?c2 ?c3 ?c4 ?c5 ?_)
       all_goals first|(case c1=>exact bP.o.below (ae _ _))|(case c2=>exact aD lX rfl)|(case c3=>exact aD lX rfl)|(case c4=>rw[cD];omega)|(case c5=>simp;omega)|skip
       intro v' w6 Of aI _;have hA:=ae W22 (Sx #[Bm Sj f.1,Bm Sj f.2] 49);have Tq:=aa ((b8.o.trans (hA.mono bQ)).trans aI);replace Of:=aa Of;clear hA aI f0 f1;go_wp2;go_roundw;exact⟨j+1,WQ,Zf,by rw[TK.o];first|exact Of.o|(rw[<- cV];exact Of.o),Tq.o⟩;exact Ti
      have hb2:(e.2==f.1)=VN:=beq_eq_false_iff_ne.2 hes;rw[bh (fun c=>hes c.2),eM]at TK;clear hen hes;go_upto_region 22 with(fail);go_quiet (fail);clear aS hb2 q1 q2 d0;go_wp2;go_roundw
      exact⟨j+1,WQ,Zf,Tfa,aT Y0.o _⟩;exact Ti
     have aS:=jI hen;rw[bh (fun c=>hen c.1),eM]at TK;clear hen;go_upto_region 22 with(fail);go_quiet (fail);clear aS q1 q2 d0;go_wp2;go_roundw
     exact⟨j+1,WQ,Zf,Tfa,aT Y0.o _⟩;exact Ti
    obtain rfl:j=E.length:=by omega
    rw[cI]at HOJ;go_wp2;go_roundw;exact⟨k+1,WQ,Zf,by rw[YC.o];exact HOJ.o,Y0.o⟩;exact Ti
   obtain rfl:k=x.length:=by omega
   rw[cI]at av hll;obtain⟨pl,nl,cl,rfl⟩:=av.o.slice;have aA:=aa (C7.o.trans (ay.o.mono a9));have a8:=aa (a7.o.below ay.o);have bR:=aa (av.o.mono (B':=w3.1.size) a9);have aJ:=aA.o.size;go_wp2_with(at_builtin;refine iA lX lX w3.1.size ys (FG pl nl cl) (x.flatMap (nrL E d.name)) lX ?c1 ?c2 wr.1.size 1 lX ?c3 ?c4 ?c5 ?_)
   all_goals first|(case c1=>exact a8.o.below (ae _ _))|(case c2=>exact bR.o.below (ae _ _))|(case c3=>exact aD lX rfl)|(case c4=>omega)|(case c5=>simp;omega)|skip
   intro v' c6 Of aK _;have WX:=aa ((aA.o.alloc aJ _).trans aK);replace Of:=aa Of;clear aK;go_wp2;go_roundw;exact⟨m+1,WQ,Zf,WX.o,_,Of.o,by simp[hyl],Uv.o.snoc Teq aE.o WQ⟩;exact Ti
 obtain rfl:m=Wq g.Gb:=by omega
 have TF:=aa (cJ.o.trans (hB.o.mono aB));have bS:=aa (ab.o.mono aB);clear hB ab;go_wp2;go_ret2;exact⟨TF.o,.inr ⟨HQ.o,_,ys,rfl,bS.o,hyl,Uv.o⟩⟩
end
end Go.Proofs.YtfmbphdjcghfnaaGreatDoor
