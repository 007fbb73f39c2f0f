/- Lemmas: MkR, MkN, MkPa, MkPb, MkP, MkSd, MkSa, MkSb, MkSc, MkS. -/
import Derived.Test.YtfmbphdjcghfnaaGreatDoorQj02
set_option maxRecDepth 100000
set_option maxHeartbeats 32000000
set_option linter.all false
open List renaming length→Wq,range→FF,replicate→DE,mem_append→AS,getElem?_eq_some_iff→AT,singleton_inj→IF
open Go.Value renaming string→By,slice→FG,int→Bm
open Go.World renaming cell?→AN,frozen?→BT,setCell→AF,alloc→AI
open Go.IntKind renaming i64→Sj,u64→U8
open Go.Obj renaming cells→Sx
open Go.Value renaming pointer→SL,bool→Ft,agg→Tk,tuple→Vj
open Go.Ending renaming returned→S6
open Option renaming some→Vv,none→VX
open Bool renaming false→VN,true→VR
open Decidable renaming decide→V7
open Go renaming undef→uu
namespace Go.Proofs.YtfmbphdjcghfnaaGreatDoor
variable{gt:Prop}
open Go.Proofs.Tryz
open Go.RowKit
variable {α:Type}{sz B k:Nat}{t:TypeId}{w w':H7}{v:zY}{lengths:PI}
def TaK(x0:Int)(x1:Int):Tab #[Bm Sj x0,Bm Sj x1,Bm Sj 8,FG VX 0 0,Bm Sj 0,FG VX 0 0,By ⟨#[]⟩,By ⟨#[]⟩,Bm Sj 0,Bm Sj 0,Bm Sj 0]:=⟨⟩
def TaG(x0:Int)(x1:Int):Tab #[Bm Sj x0,Bm Sj x1,Bm Sj 10,FG VX 0 0,Bm Sj 0,FG VX 0 0,By ⟨#[]⟩,By ⟨#[]⟩,Bm Sj 0,Bm Sj 0,Bm Sj 0]:=⟨⟩
def TaJ(x0:Int)(x1:Int):Tab #[Bm Sj x0,Bm Sj x1,Bm Sj 9,FG VX 0 0,Bm Sj 0,FG VX 0 0,By ⟨#[]⟩,By ⟨#[]⟩,Bm Sj 0,Bm Sj 0,Bm Sj 0]:=⟨⟩
def TaI(x0:Int)(x1:Int):Tab #[Bm Sj x0,Bm Sj x1,Bm Sj 1,FG VX 0 0,Bm Sj 0,FG VX 0 0,By ⟨#[]⟩,By ⟨#[]⟩,Bm Sj 0,Bm Sj 0,Bm Sj 0]:=⟨⟩
def TaX(x0:H6):Tab #[By x0,Bm U8 0,Ft VN,Ft VN,FG VX 0 0,FG VX 0 0]:=⟨⟩
def TeA(h:gt:=by simp[iG,aV]):=h
def Tdn(h:gt:=by rw[show((c-1:Nat):Int)=(c:Int)-1 by omega]):=h
def TdH(h:gt:=by first|omega|(simp only[cD,cS,ux];omega)):=h
variable{RK RW Rr SO Se Sf St TO To UP W0 Wg Wr ZD ZS a5 a7 a8 a9 aE aL ab ag am ao av b0 b1 b2 b3 b4 b5 b8 bL bV ba be bf bl bm bp bu c0 c1 c10 c2 c5 c6 c7 c8 c9 ca cc ce cf ci cl cn co cp da dj dq eS fa fb ff fs ft fx gE gn iS im ka kc ke lE lP mT me mu mw mx nF o4 oE oR oS pe ph pr pt qe qk qt qv rl rm sE sa sd ta tb te tf ti tr tt tw v' vf vj vm vv we wg wv yW yk zd zp:zY}{F X ok':LN}{names:QN}{on s:H6}{Q:N2}{Ll Ln Lx M b cap j vb vc:Nat}{kind n:Int}{Ga:wy aR}{tl vs:wy ay}{xs:zY->Array zY}
theorem CE(X:LN)(bs bb sb tn tc:Nat)(tp:IH)(nv:zY)(g:af)(next:PI)(w:H7)(h:eW X w bs bb nv vv g next)(hk:BOk g next)(name:H6)(id:Int)(hidden ro:Bool)(x0:aB)(aA:0<=x0.length/\x0.length<=1000)
  (hsv:iL bC 11 (ZQ X bb nv vv) w (FG (Vv sb) 1 1) [x0]):Calls prog 17 #[SL (Vv bb),Tk #[name,Bm U8 id,hidden,ro,FG tp tn tc,FG (Vv sb) 1 1]] w (FT X bs bb nv vv g next name id hidden ro (FG tp tn tc) x0 w):=by
 have k2:=hk.dk.pos;have k3:=hk.dk.le;have ba:sb<w.1.size:=by
  obtain⟨b,olds,e,hb,_⟩:=hsv;injection e with e;injection e with e;injection e with e;omega
 go_enter func17,ntmps17;have cX:=h.Gj;have gO:=h.lt
 have c0:∀o p,((w.alloc o).alloc p).cell? bb=Vv (SL (Vv bs)):=fun o p=>by
  have e:((w.alloc o).alloc p).1[bb]?=w.1[bb]?:=by rw[cj _ _ _ ZY,cj _ _ _ cX]
  exact(cd (w:=w) e).trans h.c0
 generalize am:(fun v:zY=>#[By name,Bm U8 id,Ft hidden,Ft ro,FG tp tn tc,v])=cs;have SS:∀v,cs v=#[By name,Bm U8 id,Ft hidden,Ft ro,FG tp tn tc,v]:=fun v=>by rw[<- am]
 replace SS:=aa SS;clear am;have M0:MSt X bs bb nv vv g next w w.1.size cs [x0] (FG (Vv sb) 1 1) [x0] [] next ((w.alloc (Sx #[name,Bm U8 id,hidden,ro,FG tp tn tc,FG (Vv sb) 1 1] 46)).alloc (Sx (TaX es) 46)):=by
  have hb:Below w.1.size w ((w.alloc (Sx #[name,Bm U8 id,hidden,ro,FG tp tn tc,FG (Vv sb) 1 1] 46)).alloc (Sx (TaX es) 46)):=((bj _ _).alloc (bk _) _).alloc XN _;have hno:∀k,eO X w.1.size (FG (Vv sb) 1 1) k->X k\/k=w.1.size\/k=w.1.size+1:=by
   rintro k (q|q|q|q)
   ·exact .inl q
   ·exact .inr (.inl q)
   ·exact .inr (.inr q)
   obtain rfl:sb=k:=by injection q.1
   have:=q.2;omega
  refine⟨(aH.refl h).fresh hb (fun k hk=>?_),?_,⟨#[By es,Bm U8 0,VN,VN,FG VX 0 0,FG VX 0 0],rfl,?_⟩,.inl ⟨hsv.moves bC.moves ⟨hb.size,fun b aC ho=>⟨⟨ho.1,ho.2.1,ho.2.2.1,fun q=>?_⟩,hb.block b aC⟩⟩,fun b e=>?_⟩,.nil,.nil _,XN,fun x hx=>?_,bk _,XN⟩
  ·rcases hno k hk with q|q|q
   ·exact .inl q
   ·exact .inr ⟨WQ,ZY⟩
   exact .inr ⟨WQ,ZY⟩
  ·rw[cj _ _ _ XN,b9,SS.o]
  ·have:=b9 (w.alloc (Sx #[name,Bm U8 id,hidden,ro,FG tp tn tc,FG (Vv sb) 1 1] 46)) (Sx (TaX es) 46);rw[cW]at this;exact this
  ·rcases hno b q with q|q|q
   ·exact ho.2.2.2 q
   ·omega
   omega
  ·obtain rfl:sb=b:=by injection e
   omega
  simp only[dr,cY,dg]at hx;rw[hx];exact aA
 go_wp2_with fail;refine(bY bs 3 _ WQ WQ M0.post.bld.src).mono ?_;rintro e w1 ⟨cv,rfl,bd,be,hs1,ao⟩;have M1:=M0.read hs1 ao;clear ao hs1 c0 M0 hsv;obtain⟨c,rfl⟩:∃u:Nat,cv=u:=⟨cv.toNat,WQ⟩;go_wp2
 go_loopw[5] (fun i wr=>∃(c:Nat) (sv:zY) (Gf:wy aB) (ps:wy (H6 × H5)) (nx:PI),c+Gf.length<=3/\i=Bm Sj c/\MSt X bs bb nv vv g next w w.1.size cs [x0] sv Gf ps nx wr) (fun i _=>(intOf i).toNat)
 exact⟨c,_,_,_,_,ZY,rfl,M1⟩;obtain⟨c,sv,Gf,ps,nx,bf,rfl,M⟩:=hrel;have GF:Gf.length<=3:=by omega
 obtain⟨sp,mL,PO,s1,s2,s3⟩:=(M.st.rd bC.moves YR (ok':=fun _=>True) (fun _ _ _=>trivial) (fun _ _=>trivial)).form;subst PO;replace s3:=aa s3;by_cases hc0:c=0
 ·subst hc0;have PQ:wr.1[w.1.size]?=Vv (Sx #[name,Bm U8 id,hidden,ro,FG tp tn tc,FG sp Gf.length mL] 46 (0,0)):=by rw[<- SS.o];exact M.bv
  have qL:=cr PQ;obtain⟨q0,q1,q2,q3,q4,q5⟩:=sv6 qL;obtain⟨zs,aE,hr⟩:=M.br;obtain⟨z0,z1,z2,z3,z4,z5,rfl⟩:∃z0 z1 z2 z3 z4 z5,zs=#[z0,z1,z2,z3,z4,z5]:=by
   obtain⟨l⟩:=zs
   match l,aE with
   |[a,b,c,d,e,f],_=>exact⟨a,b,c,d,e,f,rfl⟩
  obtain⟨r0,r1,r2,r3,r4,r5⟩:=sv6 (cr hr);have rf:=sr hr;replace qL:=aa qL;replace hr:=aa hr;have VD:=aa PQ;clear PQ;have RD:ck bC 11 (fun b=>ZQ X bb nv vv b/\b≠w.1.size+1) wr [FG sp Gf.length mL] Gf:=M.st.rd bC.moves YR (fun b _ ho=>⟨⟨ho.1,ho.2.1,ho.2.2.1,fun q=>ho.2.2.2 (.inl q)⟩,fun e=>ho.2.2.2 (.inr (.inr (.inl e)))⟩) (fun b hb=>by
   have hy:eO X w.1.size (FG sp Gf.length mL) b:=.inr (.inr (.inr hb));have:=hb.2;exact⟨⟨(M.post.bld.xlt b hy).1,fun q=>M.post.bld.xn b q hy,fun q=>M.post.bld.xv b q hy,fun q=>by have:=(h.xlt b q).2;omega⟩,WQ⟩)
  have PP:aH X bs bb nv vv w ((((((wr.setCell (XM (w.1.size+1) 0) (By name)).setCell (XM (w.1.size+1) 1) (Bm U8 id)).setCell (XM (w.1.size+1) 2) (Ft hidden)).setCell (XM (w.1.size+1) 3) (Ft ro)).setCell (XM (w.1.size+1) 4) (FG tp tn tc)).setCell (XM (w.1.size+1) 5) (FG sp Gf.length mL)) nv vv g nx :=
   ((((((M.post.put _ 0 _ (.inr (.inr (.inl lX))) WQ).put _ 1 _ (.inr (.inr (.inl lX))) WQ).put _ 2 _ (.inr (.inr (.inl lX))) WQ).put _ 3 _ (.inr (.inr (.inl lX))) WQ).put _ 4 _ (.inr (.inr (.inl lX))) WQ).put _ 5 _ (.inr (.inr (.inl lX))) WQ).fewer (fun k hk=>.inl hk)
  have RF:ck bC 11 (ZQ X bb nv vv) ((((((wr.setCell (XM (w.1.size+1) 0) (By name)).setCell (XM (w.1.size+1) 1) (Bm U8 id)).setCell (XM (w.1.size+1) 2) (Ft hidden)).setCell (XM (w.1.size+1) 3) (Ft ro)).setCell (XM (w.1.size+1) 4) (FG tp tn tc)).setCell (XM (w.1.size+1) 5) (FG sp Gf.length mL)) [FG sp Gf.length mL] Gf :=
   (ck.moves bC.moves).mv ⟨Tdi,fun b _ ho=>⟨ho.1,by rw[bw _ _ _ _ ho.2,bw _ _ _ _ ho.2,bw _ _ _ _ ho.2,bw _ _ _ _ ho.2,bw _ _ _ _ ho.2,bw _ _ _ _ ho.2]⟩⟩ RD
  replace PP:=aa PP;replace RF:=aa RF;clear RD;go_wp2;refine eC (v:=Tk #[name,Bm U8 id,hidden,ro,FG tp tn tc,FG sp Gf.length mL]) (by simp[results,Tryz.results17,go_sem,r0,r1,r2,r3,r4,r5]) lX ⟨_,Gf,ps,nx,rfl,M.more,GF,M.took,M.sub,PP.o,RF.o⟩
 have dk:=M.took.ok hk.dk;have PQ:wr.1[w.1.size]?=Vv (Sx #[name,Bm U8 id,hidden,ro,FG tp tn tc,FG sp Gf.length mL] 46 (0,0)):=by rw[<- SS.o];exact M.bv
 have q5:=cr PQ 5 _ lX;have VD:=aa PQ;clear PQ;have bh:V7 ((0:Int)<(c:Int))=VR:=by simp;omega
 go_wp2;go_loop[6,7] (fun s i=>∃k:Nat,k<=Gf.length/\i=Bm Sj k/\s=Bm Sj (bg (Gf.take k))) (fun _ i=>Gf.length-(intOf i).toNat)
 exact⟨0,WQ,rfl,rfl⟩;obtain⟨k,bi,rfl,rfl⟩:=hrel;have SU:=Bb (Gf.take k) (fun x hx=>M.len x (tR hx));have Xa:((Gf.take k).length:Int)<=3:=by rw[ey];omega
 have Xb:=SU.1;have Xc:bg (Gf.take k)<=3000:=by omega
 clear SU Xa;by_cases hlt:k<Gf.length
 ·obtain⟨b,off,rfl,hb,_,au⟩:=s3.o WQ;obtain⟨y,hy⟩:=aj Gf k hlt;have hyl:=M.len y (ct hy);have bl:=hyl.1;have bm:=hyl.2;have bp:wr.cell? (b,off+k*11+1)=Vv (Bm Sj y.length):=by
   obtain⟨u,_,⟨a,t,rfl,_⟩,hc⟩:=au k y hy;exact hc 1 _ lX
  have V2:=aa (om Gf k y hy);clear au hy hyl;go_wp2;go_round;exact⟨k+1,WQ,Zf,by rw[V2.o]⟩;exact Ti
 obtain rfl:k=Gf.length:=by omega
 rw[cI]at Xb Xc ⊢;have c0:=M.post.bld.c0;go_wp2_with fail;refine(bO bs 1 3 _ WQ WQ WQ M.post.bld.src).mono ?_;rintro e w2 ⟨n,rfl,hn1,hn2,hs2,av⟩;have M2:=M.read hs2 av;clear av hs2 c0 q5;have c0:=M2.post.bld.c0;have M3:=M2.below (ae w2 (Sx #[Bm Sj 1,Bm Sj 9,Bm Sj 10,Bm Sj 8] 3));have hb2:=M2.post.bld.Gj;have Q7:=M2.post.bld.lt;have Zc:ig (w2.alloc (Sx #[Bm Sj 1,Bm Sj 9,Bm Sj 10,Bm Sj 8] 3)) w2.1.size 0 [1,9,10,8]:=mo w2 _ [1,9,10,8];replace Zc:=aa Zc;go_wp2_with fail;refine(jD bs w2.1.size 4 [1,9,10,8] XN XN XN WQ XN WQ Zc.o M3.post.bld.src).mono ?_;rintro e w4 ⟨kd,rfl,zE,aw,ay⟩;have M4:=M3.read aw ay;clear ay aw c0 M2 M3;simp only[dr,cY,dg]at zE;rcases zE with rfl|rfl|rfl|rfl
 ·have M5:fw (fD X w4.1.size) bs bb nv vv g next w w.1.size cs [x0] (FG sp Gf.length mL) Gf ps nx w4.1.size #[Bm Sj (bg Gf),Bm Sj n,Bm Sj 1,FG VX 0 0,Bm Sj 0,FG VX 0 0,By ⟨#[]⟩,By ⟨#[]⟩,Bm Sj 0,Bm Sj 0,Bm Sj 0] (w4.alloc (Sx (TaI (bg Gf) n) 55)):=⟨M4.fresh (Sx (TaI (bg Gf) n) 55),b9 w4 _,.inr lX⟩
  have a8:=M4.hB;have a9:(FG sp Gf.length mL).ownBlock≠Vv w4.1.size:=fun e=>by have:=M4.svLt e;omega
  have hxk:(w4.alloc (Sx (TaI (bg Gf) n) 55)).cell? (XM w4.1.size 2)=Vv (Bm Sj 1):=aD lX rfl;go_upto_region 12 with(fail);clear hxk;generalize a7:w4.alloc _=W5 at *;generalize Kd:w4.1.size=L4 at *;clear a7 Kd;refine qB M5 hk n hn1 hn2 (fun _ _ _ _ _ h=>h) (aa ?_);intro A on s ok ps1 nx1 w5 u60 u61 u62 u63 u64 u65 u66 u67 u68 u69 u70 u71 u72 u73 u74 u75 u76 hA UA gw M6 hX;clear hX M5;cases ok with
  |false =>
   go_wp2;go_roundw;exact⟨c-1,_,Gf,_,_,TdH,Tdn,M6.m.drop⟩;exact Ti
  |true =>
   obtain rfl:=gw lX;clear gw;have a0:=sv3 (cr hA);obtain⟨M7,a5,ab⟩:=M6.lit a8 a9 #[Ft VN,By on,Bm Sj s];simp only[xT,List.set_cons_zero,List.set_cons_succ]at M7;have l3:(w5.alloc (Sx (Tat on s) 53)).cell? (XM L4 3)=Vv (FG VX 0 0):=by rw[cd (w:=w5) (cj _ _ _ (aq M6.lx))];simp[AN,M6.lx]
   have lf:(w5.alloc (Sx (Tat on s) 53)).frozen? (XM L4 3)=VN:=by rw[rh (w:=w5) (cj _ _ _ (aq M6.lx))];simp[BT,M6.lx]
   have l2:((w5.alloc (Sx (Tat on s) 53)).setCell (XM L4 3) (FG (Vv w5.1.size) 1 1)).cell? (XM L4 2)=Vv (Bm Sj 1):=by simp[AN,M7.lx]
   have HA:=aa hA;clear hA;have Xd:=aa a5;clear a5;have Qy:=aa ab;clear ab;have Qx:=aa M7;clear M7 M6;go_upto_region 19 with(fail);clear a0 l3 lf l2;generalize ah:AF (w5.alloc _) _ _=W7 at *;generalize Xe:w5.1.size=Sb at *;clear ah Xe;have M7:=Qx.o;go_upto_region 19 with(fail);refine jW (M7.drop (.inr lX)) SS WQ (ck.one (V:=aQ) (u:=[Ft VN,By on,Bm Sj s]) (x:=(⟨VN,on,s⟩:aR)) Xd.o ⟨Qy.o.1,Qy.o.2.1,Qy.o.2.2.1,fun q=>Qy.o.2.2.2 (q.imp .inl (fun z=>z))⟩ lX (show _=_ from lX)) (.lin M.more ⟨hn1,hn2⟩) (M.more.sub M.sub (x:=aV (bg Gf) n 1 [⟨VN,on,s⟩] 0) TeA) hn1 hn2 (aa ?_);intro ai w9 u118 u119 u120 u121 u122 u123 M9;go_wp2;go_roundw;exact⟨c-1,_,(Gf++[aV (bg Gf) n 1 [⟨VN,on,s⟩] 0]),_,_,TdH,Tdn,M9⟩;exact Ti
 ·have M5:fw (fD X w4.1.size) bs bb nv vv g next w w.1.size cs [x0] (FG sp Gf.length mL) Gf ps nx w4.1.size #[Bm Sj (bg Gf),Bm Sj n,Bm Sj 9,FG VX 0 0,Bm Sj 0,FG VX 0 0,By ⟨#[]⟩,By ⟨#[]⟩,Bm Sj 0,Bm Sj 0,Bm Sj 0] (w4.alloc (Sx (TaJ (bg Gf) n) 55)):=⟨M4.fresh (Sx (TaJ (bg Gf) n) 55),b9 w4 _,.inr lX⟩
  have a8:=M4.hB;have a9:(FG sp Gf.length mL).ownBlock≠Vv w4.1.size:=fun e=>by have:=M4.svLt e;omega
  have hxk:(w4.alloc (Sx (TaJ (bg Gf) n) 55)).cell? (XM w4.1.size 2)=Vv (Bm Sj 9):=aD lX rfl;go_upto_region 19 with(fail);clear hxk;generalize a7:w4.alloc _=W5 at *;generalize Kd:w4.1.size=L4 at *;clear a7 Kd;go_upto_region 19 with(fail);refine jW M5 SS WQ (ck.nil) (.void M.more ⟨hn1,hn2⟩ (.inl lX)) (by have:=M.more.sub M.sub (x:=aV (bg Gf) n 9 [] 0) (ps1:=[]) TeA;simpa using this) hn1 hn2 (aa ?_);intro ai w9 u118 u119 u120 u121 u122 u123 M9;go_wp2;go_roundw;exact⟨c-1,_,(Gf++[aV (bg Gf) n 9 [] 0]),_,_,TdH,Tdn,M9⟩;exact Ti
 ·have M5:fw (fD X w4.1.size) bs bb nv vv g next w w.1.size cs [x0] (FG sp Gf.length mL) Gf ps nx w4.1.size #[Bm Sj (bg Gf),Bm Sj n,Bm Sj 10,FG VX 0 0,Bm Sj 0,FG VX 0 0,By ⟨#[]⟩,By ⟨#[]⟩,Bm Sj 0,Bm Sj 0,Bm Sj 0] (w4.alloc (Sx (TaG (bg Gf) n) 55)):=⟨M4.fresh (Sx (TaG (bg Gf) n) 55),b9 w4 _,.inr lX⟩
  have a8:=M4.hB;have a9:(FG sp Gf.length mL).ownBlock≠Vv w4.1.size:=fun e=>by have:=M4.svLt e;omega
  have hxk:(w4.alloc (Sx (TaG (bg Gf) n) 55)).cell? (XM w4.1.size 2)=Vv (Bm Sj 10):=aD lX rfl;go_upto_region 19 with(fail);clear hxk;generalize a7:w4.alloc _=W5 at *;generalize Kd:w4.1.size=L4 at *;clear a7 Kd;go_upto_region 19 with(fail);refine jW M5 SS WQ (ck.nil) (.void M.more ⟨hn1,hn2⟩ (.inr lX)) (by have:=M.more.sub M.sub (x:=aV (bg Gf) n 10 [] 0) (ps1:=[]) TeA;simpa using this) hn1 hn2 (aa ?_);intro ai w9 u118 u119 u120 u121 u122 u123 M9;go_wp2;go_roundw;exact⟨c-1,_,(Gf++[aV (bg Gf) n 10 [] 0]),_,_,TdH,Tdn,M9⟩;exact Ti
 have M5:fw (fD X w4.1.size) bs bb nv vv g next w w.1.size cs [x0] (FG sp Gf.length mL) Gf ps nx w4.1.size #[Bm Sj (bg Gf),Bm Sj n,Bm Sj 8,FG VX 0 0,Bm Sj 0,FG VX 0 0,By ⟨#[]⟩,By ⟨#[]⟩,Bm Sj 0,Bm Sj 0,Bm Sj 0] (w4.alloc (Sx (TaK (bg Gf) n) 55)):=⟨M4.fresh (Sx (TaK (bg Gf) n) 55),b9 w4 _,.inr lX⟩
 have a8:=M4.hB;have a9:(FG sp Gf.length mL).ownBlock≠Vv w4.1.size:=fun e=>by have:=M4.svLt e;omega
 have hxk:(w4.alloc (Sx (TaK (bg Gf) n) 55)).cell? (XM w4.1.size 2)=Vv (Bm Sj 8):=aD lX rfl;go_upto_region 12 with(fail);clear hxk;generalize a7:w4.alloc _=W5 at *;generalize Kd:w4.1.size=L4 at *;clear a7 Kd;refine qB M5 hk n hn1 hn2 (fun _ _ _ _ _ h=>h) (aa ?_);intro A on s ok ps1 nx1 w5 u60 u61 u62 u63 u64 u65 u66 u67 u68 u69 u70 u71 u72 u73 u74 u75 u76 hA UA gw M6 hX;clear hX M5;cases ok with
 |false =>
  go_wp2;go_roundw;exact⟨c-1,_,Gf,_,_,TdH,Tdn,M6.m.drop⟩;exact Ti
 |true =>
  obtain rfl:=gw lX;clear gw;have a0:=sv3 (cr hA);obtain⟨M7,a5,ab⟩:=M6.lit a8 a9 #[Ft VN,By on,Bm Sj s];simp only[xT,List.set_cons_zero,List.set_cons_succ]at M7;have l3:(w5.alloc (Sx (Tat on s) 53)).cell? (XM L4 3)=Vv (FG VX 0 0):=by rw[cd (w:=w5) (cj _ _ _ (aq M6.lx))];simp[AN,M6.lx]
  have lf:(w5.alloc (Sx (Tat on s) 53)).frozen? (XM L4 3)=VN:=by rw[rh (w:=w5) (cj _ _ _ (aq M6.lx))];simp[BT,M6.lx]
  have l2:((w5.alloc (Sx (Tat on s) 53)).setCell (XM L4 3) (FG (Vv w5.1.size) 1 1)).cell? (XM L4 2)=Vv (Bm Sj 8):=by simp[AN,M7.lx]
  have HA:=aa hA;clear hA;have Xd:=aa a5;clear a5;have Qy:=aa ab;clear ab;have Qx:=aa M7;clear M7 M6;go_upto_region 16 with(fail);clear a0 l3 lf l2;generalize ah:AF (w5.alloc _) _ _=W7 at *;generalize Xe:w5.1.size=Sb at *;clear ah Xe;have M7:=Qx.o;refine zM M7 hk n hn1 hn2 (fun _ _ _ _ _ h=>h) (aa ?_);intro A2 ak s2 aF bu nx2 w8 bz bD bE bF bG bH bI bJ bK bL bM bP bQ bR bS aG aI hA2 Xf az M8 hX;have a5:=(hX Sb (.inr lX)).trans Xd.o;clear hX M7 Qx;have M9:=M8.drop (.inr lX);clear M8;cases aF with
  |false =>
   go_wp2;go_roundw;exact⟨c-1,_,Gf,_,_,TdH,Tdn,M9.m.drop⟩;exact Ti
  |true =>
   obtain rfl:=az lX;clear az;go_upto_region 18 with(fail);refine yX M9 a8 a9 Xf a5 Qy.o hA2 hn1 hn2 (fun _ _ _ _ _ h=>h) (aa ?_);intro gb cap dn bT aJ aK aL aM aN aO aP aS aT aU aW aX aY aZ PN SR b8 ag;clear M9 a5 hA2;have Xg:=aa ((ck.moves aQ.moves).mv (ok':=ZQ (eO X w.1.size (FG sp Gf.length mL)) bb nv vv) ⟨bk _,fun b _ ho=>⟨⟨ho.1,ho.2.1,ho.2.2.1,fun q=>ho.2.2.2 (q.imp .inl (fun z=>z))⟩,rfl⟩⟩ ag);clear ag;go_upto_region 19 with(fail);refine jW b8 SS WQ (Xg.o) (.move M.more ⟨hn1,hn2⟩ ⟨PN,SR⟩) (by have:=M.more.sub M.sub (x:=aV (bg Gf) n 8 [⟨VN,on,s⟩,⟨VN,ak,s2⟩] dn) (ps1:=[(on,s,n),(ak,s2,n)]) TeA;rw[cV];exact this) hn1 hn2 (aa ?_);intro ai w9 u118 u119 u120 u121 u122 u123 M9;go_wp2;go_roundw;exact⟨c-1,_,(Gf++[aV (bg Gf) n 8 [⟨VN,on,s⟩,⟨VN,ak,s2⟩] dn]),_,_,TdH,Tdn,M9⟩;exact Ti
structure Loc(w:H7)(B Lx Ln Ll:Nat)(ft fx av:zY)(names:QN)(lengths:PI)(Ga:wy aR)(xs:zY->Array zY):Prop where
 bn:w.heap[Ln]?=Vv (Sx #[ft] 26 (0,0))
 bl:w.heap[Ll]?=Vv (Sx #[fx] 22 (0,0))
 bx:w.heap[Lx]?=Vv (Sx (xs av) 55 (0,0))
 on:bF aF 1 9 B (fun _=>False) w ft names
 ol:bF cO 1 3 B (fun _=>False) w fx lengths
 oa:bF aQ 3 53 B (fun _=>False) w av Ga
 nl:∀k,ft.ownBlock=Vv k->fx.ownBlock≠Vv k
 na:∀k,ft.ownBlock=Vv k->av.ownBlock≠Vv k
 la:∀k,fx.ownBlock=Vv k->av.ownBlock≠Vv k
 d1:Lx<Ln
 d2:Ln<Ll
 d3:Ll<B
def nJ(Lx Ln Ll:Nat)(ft fx av:zY):Nat->Prop:=fun k=>k=Lx\/k=Ln\/k=Ll\/ft.ownBlock=Vv k\/fx.ownBlock=Vv k\/av.ownBlock=Vv k
def bF.ge{V:jx α}{ok:LN}{l:wy α}(h:bF V sz t B ok w v l)(e:v.ownBlock=Vv k):B<=k/\k<w.1.size:=by
 exact TcL
def bF.Gl{V:jx α}(hV:Moves V){l:wy α}(h:bF V sz t B (fun _=>False) w v l)(hz:w.1.size<=w'.1.size)(hk:∀k,v.ownBlock=Vv k->w'.1[k]?=w.1[k]?):bF V sz t B (fun _=>False) w' v l:=by
 obtain⟨cs,ho,hf⟩:=h;exact⟨cs,aC ho hk,Flat.moves hV ⟨hz,fun _ _ f=>f.elim⟩ _ _ hf⟩
def bF.ty{V:jx α}{ok:LN}{l:wy α}(h:bF V sz t B ok w v l)(e:v.ownBlock=Vv k):∃cs,w.1[k]?=Vv (Sx cs t (0,0)):=by
 obtain⟨cs,⟨_,h2⟩,_⟩:=h;rcases h2 with⟨rfl,_⟩|⟨g,cap,a5,rfl,_,hg,_⟩
 ·cases e
 obtain rfl:g=k:=by injection e
 exact⟨a5,hg⟩
def bF.ne{β:Type}{V:jx α}{V':jx β}{a7 B':Nat}{t':TypeId}{ok:LN}{l:wy α}{l':wy β}(h:bF V sz t B ok w v l)(h':bF V' a7 t' B' ok' w v' l')(ht:t≠t'):∀k,v.ownBlock=Vv k->v'.ownBlock≠Vv k:=fun k e e'=>by
 obtain⟨c,hc⟩:=h.ty e;obtain⟨c',a5⟩:=h'.ty e';rw[hc]at a5;injection a5 with a5;injection a5 with _ q _;exact ht q
def bF.form{V:jx α}{ok:LN}{l:wy α}(h:bF V sz t B ok w v l):∃p cap,v=FG p l.length cap/\l.length<=cap/\cap<=9223372036854775807:=by
 obtain⟨cs,⟨_,h2⟩,_⟩:=h;rcases h2 with⟨rfl,hn⟩|⟨g,cap,a5,rfl,_,_,vr,hcm,_⟩
 ·exact⟨VX,0,by rw[hn],WQ,WQ⟩
 exact⟨_,cap,rfl,vr,Tds⟩
def Loc.keep(h:Loc w B Lx Ln Ll ft fx av names lengths Ga xs)(hz:w.1.size<=w'.1.size)(hk:∀k,nJ Lx Ln Ll ft fx av k->w'.1[k]?=w.1[k]?):Loc w' B Lx Ln Ll ft fx av names lengths Ga xs :=
 ⟨(hk Ln (.inr (.inl lX))).trans h.bn,(hk Ll (.inr (.inr (.inl lX)))).trans h.bl,(hk Lx (.inl lX)).trans h.bx,h.on.Gl aF.moves hz (fun k e=>hk k (.inr (.inr (.inr (.inl e))))),h.ol.Gl cO.moves hz (fun k e=>hk k (.inr (.inr (.inr (.inr (.inl e)))))),h.oa.Gl aQ.moves hz (fun k e=>hk k (.inr (.inr (.inr (.inr (.inr e)))))),h.nl,h.na,h.la,h.d1,h.d2,h.d3⟩
structure FO(w:H7)(B Lx Ln Ll:Nat)(ft fx av:zY)(names:QN)(lengths:PI)(Ga:wy aR)(xs:zY->Array zY)(s:H6)(n:Int)(ar3 Kf av':zY)(w':H7):Prop where
 loc:Loc w' B Lx Ln Ll ar3 Kf av' (names++[s]) (lengths++[n]) (Ga++[⟨VR,s,0⟩]) xs
 mod:cR (nJ Lx Ln Ll ft fx av) w w'
 fr:∀k,nJ Lx Ln Ll ar3 Kf av' k->nJ Lx Ln Ll ft fx av k\/(w.heap.size<=k/\k<w'.heap.size)
def jA(h:w.grownBy w' v.ownBlock):cR (fun k=>v.ownBlock=Vv k) w w':=⟨h.os,h.tape,h.output,h.size,fun k hk hn=>h.block k hk fun e=>hn e.symm⟩
def TbI(h:gt:=by
 have hk5:=(ol5.ge q).2;obtain rfl:g2=k:=by injection q
 rcases t2 with q1|q1
 ·exact .inl (.inr (.inr (.inr (.inr (.inl q1)))))
 exact .inr ⟨WQ,hk5⟩):=h
def TbN(h:gt:=by
 have hk5:=(on5.ge q).2;obtain rfl:g1=k:=by injection q
 rcases t1 with q1|q1
 ·exact .inl (.inr (.inr (.inr (.inl q1))))
 exact .inr ⟨WQ,hk5⟩):=h
def Tbq(h:gt:=by
 rw[<- hW];exact((hm.mono (G:=nJ Lx Ln Ll ft fx av) (fun k q=>q.elim (fun q=>.inr (.inr (.inr (.inl q)))) (fun q=>.inr (.inr (.inr (.inr (.inl q))))))).setCell (p:=Ln) (.inl (.inr (.inl lX))) _).setCell (p:=Ll) (.inl (.inr (.inr (.inl lX)))) _):=h
def TcB(h:gt:=by
 rw[<- hW];exact block_setCell (cs:=#[_]) (i:=0) _ ((bw _ _ _ _ (Ne.symm x1)).trans bl)):=h
def TbA(h:gt:=by
 refine⟨fun q=>(hC.1 q).Gl aF.moves hp.grown.size (fun k e=>hp.grown.block k ((hC.1 q).ge e).2 (fun e'=>hd.nl k e e'.symm)),fun q=>by simp at q,hC.2.2.trans (jA hp.grown) (fun k e=>.inl (.inr e))⟩):=h
def Tcd(h:gt:=by
 obtain rfl:gb=k:=by injection ek
 rcases hat with q|q
 ·exact hd.nl gb q e7
 have:=(hd.ol.ge e7).2;omega):=h
def Tbz(h:gt:=by
 refine⟨fun q=>by simp at q,fun q=>(hC.2.1 q).Gl cO.moves hp.grown.size (fun k e=>hp.grown.block k ((hC.2.1 q).ge e).2 (fun e'=>hd.nl k e'.symm e)),hC.2.2.trans (jA hp.grown) (fun k e=>.inl (.inl e))⟩):=h
def TcI(h:gt:=by
 simp only[World.cell?,hb.2];simpa using hy):=h
def Tce(h:gt:=by
 obtain rfl:gb=k:=by injection ek
 rcases hat with q|q
 ·exact hd.nl gb e3 q
 have:=(hd.on.ge e3).2;omega):=h
def TbB(h:gt:=by
 exact⟨fun q=>(hC.1 q).Gl aF.moves XN (fun k e=>cj _ _ _ ((hC.1 q).ge e).2),fun q=>(hC.2.1 q).Gl cO.moves XN (fun k e=>cj _ _ _ ((hC.2.1 q).ge e).2),hC.2.2.alloc _⟩):=h
def Tej(h:gt:=by have:=(oa.ge e).1;omega):=h
def Tek(h:gt:=by have:=(o2.ge e).1;omega):=h
def Tel(h:gt:=by have:=(o1.ge e).1;omega):=h
theorem jM{w:H7}{B:Nat}{lengths:PI}{x0 x1 x2 x4 x5 x6 x7 x8 x9 aA:zY}(hxs:∀v,xs v=#[x0,x1,x2,v,x4,x5,x6,x7,x8,x9,aA])(h:Loc w B Lx Ln Ll ft fx av names lengths Ga xs)(hB:B<=w.1.size)(hn:names.length<=100)(hl:lengths.length<=100)(ha:Ga.length<=100):Calls prog 44 #[By s,Bm Sj n,SL (Vv Ln),SL (Vv Ll),SL (Vv Lx)] w (fun e w'=>e=S6 (Vj #[])/\∃ar3 Kf av',FO w B Lx Ln Ll ft fx av names lengths Ga xs s n ar3 Kf av' w'):=by
 have cn:=cr h.bn 0 _ lX;have cl:=cr h.bl 0 _ lX;have hd1:=h.d1;have hd2:=h.d2;have aB:=h.d3;go_enter func44,ntmps44;go_wp2;refine gW (fun w'=>w'.cell? Ln=Vv ft/\w'.cell? Ll=Vv fx) 8 [1,5] Yp ⟨cn,cl⟩ (fun a5=>?_);refine fz 1 ?_;refine fz 5 ?_;refine fS 0 a5 ?_;refine fS 4 a5 ?_;have hd:Loc w.drew B Lx Ln Ll ft fx av names lengths Ga xs:=h.keep (bk _) (fun _ _=>rfl);have Gk:cR (fun _=>False) w w.drew:=(cR.refl _ _).drewN 1;have aK:B<=w.drew.1.size:=hB;generalize aC:w.drew=wd at *;clear aC;have AH:∀k,k<B->¬(ft.ownBlock=Vv k\/fx.ownBlock=Vv k):=fun k hk q=>q.elim (fun e=>by have:=(hd.on.ge e).1;omega) (fun e=>by have:=(hd.ol.ge e).1;omega);obtain⟨i1,au,ae,af,ag⟩:=gg CJ;obtain⟨i2,hi2,ah,ai,aj⟩:=gg tZ
 refine fE (idx:=[(2,9),(3,10),(6,13),(7,14)]) (fun i=>[i])
  (fun i vs w'=>match i with
   |2=>∃b,vs 2=FG (Vv ⟨b,0,VX⟩) 1 1/\dS wd.1.size 9 [By s] b w'
   |3=>∃gb cap,vs 3=FG (Vv ⟨gb,0,VX⟩) (names.length+1) cap/\bF aF 1 9 B (fun _=>False) w' (FG (Vv ⟨gb,0,VX⟩) (names.length+1) cap) (names++[s])/\(ft.ownBlock=Vv gb\/wd.1.size<=gb)
   |6=>∃b,vs 6=FG (Vv ⟨b,0,VX⟩) 1 1/\dS wd.1.size 3 [Bm Sj n] b w'
   |7=>∃gb cap,vs 7=FG (Vv ⟨gb,0,VX⟩) (lengths.length+1) cap/\bF cO 1 3 B (fun _=>False) w' (FG (Vv ⟨gb,0,VX⟩) (lengths.length+1) cap) (lengths++[n])/\(fx.ownBlock=Vv gb\/wd.1.size<=gb)
   |_=>True)
  (fun d w'=>(d 3=VN->bF aF 1 9 B (fun _=>False) w' ft names)/\(d 7=VN->bF cO 1 3 B (fun _=>False) w' fx lengths)/\cR (fun k=>ft.ownBlock=Vv k\/fx.ownBlock=Vv k) wd w')
  (fun i w1 w2=>w1.1.size<=w2.1.size/\∀k,k<w1.1.size->(i=3->ft.ownBlock≠Vv k)->(i=7->fx.ownBlock≠Vv k)->w2.1[k]?=w1.1[k]?) Yp lX ?cs ?st (fun _ _ _ _ h=>h) ?c0 ?ob ?fin
 case c0=>exact⟨fun _=>hd.on,fun _=>hd.ol,cR.refl _ _⟩
 case cs =>
  intro d w' hC;have hm:=hC.2.2;refine⟨?_,?_⟩
  ·rw[hm.cell (p:=Ln) (aq hd.bn) (AH Ln WQ)];simp[AN,hd.bn]
  rw[hm.cell (p:=Ll) (aq hd.bl) (AH Ll WQ)];simp[AN,hd.bl]
 case st =>
  intro p hp q _ hne vs us w1 w2 ha hF he;simp only[dr,cY,dg]at hp;rcases hp with rfl|rfl|rfl|rfl
  ·obtain⟨b,e,hb⟩:=hF;exact⟨b,(ha 2 (cG ..)).trans e,hb.1,(he.2 b (aq hb.2) (fun _ e=>by have:=(hd.on.ge e).2;have:=hb.1;omega) (fun _ e=>by have:=(hd.ol.ge e).2;have:=hb.1;omega)).trans hb.2⟩
  ·obtain⟨gb,cap,e,ho,hat⟩:=hF;refine⟨gb,cap,(ha 3 (cG ..)).trans e,ho.Gl aF.moves he.1 (fun k ek=>he.2 k (ho.ge ek).2 (fun q3=>absurd q3 hne) (fun _ e7=>?_)),hat⟩;exact Tcd
  ·obtain⟨b,e,hb⟩:=hF;exact⟨b,(ha 6 (cG ..)).trans e,hb.1,(he.2 b (aq hb.2) (fun _ e=>by have:=(hd.on.ge e).2;have:=hb.1;omega) (fun _ e=>by have:=(hd.ol.ge e).2;have:=hb.1;omega)).trans hb.2⟩
  obtain⟨gb,cap,e,ho,hat⟩:=hF;refine⟨gb,cap,(ha 7 (cG ..)).trans e,ho.Gl cO.moves he.1 (fun k ek=>he.2 k (ho.ge ek).2 (fun _ e3=>?_) (fun q7=>absurd q7 hne)),hat⟩;exact Tce
 case ob =>
  refine kA.cons (deps:=[]) lX rfl Yp (fun vs d w' h0 hC hF K hK=>?_) ?_
  ·clear hF;simp only[over,cq,Act.put];go_simp;refine hK.o (FG (Vv w'.1.size) 1 1) _ ?_ ⟨XN,fun k hk _ _=>cj _ _ _ hk⟩ ⟨_,aw lX,dS.new hC.2.2.size⟩ _ ?_
   ·simp only[show(d 3||(3:Nat)==2)=d 3 from by simp,show(d 7||(7:Nat)==2)=d 7 from by simp];exact TbB
   simp only[over,cq,aS]
  refine kA.cons (deps:=[(2,9)]) lX rfl Yp (fun vs d w' h0 hC hF K hK=>?_) ?_
  ·have f:=(hF (2,9) XN).2;clear hF;simp only[over,cq,cF,aS]at f ⊢;obtain⟨b,e2,hb⟩:=f;rw[e2];simp only at h0;have hz:=hC.2.2.size;refine mU aF.moves underlying26 au ae af ag lX YR YR lX ZR B (fun _=>False) ft names s ZR (hC.1 h0) b 1 [By s] ZR ZR lX Tdj (fun j y hy=>?_) WQ WQ (fun _ _ f=>f) (fun gb cap w3 hp=>?_)
   ·exact TcI
   refine hK.o (FG (Vv gb) (names.length+1) cap) w3 ?_ ⟨hp.grown.size,fun k hk q3 q7=>hp.grown.block k hk fun e=>q3 lX e.symm⟩ ⟨gb,cap,aw lX,hp.own,hp.at'.imp id (fun q=>by omega)⟩ _ ?_
   ·simp only[show(d 7||(7:Nat)==3)=d 7 from by simp];exact Tbz
   simp only[over,cq,cF,aS,e2]
  refine kA.cons (deps:=[]) lX rfl Yp (fun vs d w' h0 hC hF K hK=>?_) ?_
  ·clear hF;simp only[over,cq,Act.put];go_simp;refine hK.o (FG (Vv w'.1.size) 1 1) _ ?_ ⟨XN,fun k hk _ _=>cj _ _ _ hk⟩ ⟨_,aw lX,dS.new hC.2.2.size⟩ _ ?_
   ·simp only[show(d 3||(3:Nat)==6)=d 3 from by simp,show(d 7||(7:Nat)==6)=d 7 from by simp];exact TbB
   simp only[over,cq,aS]
  refine kA.cons (deps:=[(6,13)]) lX rfl Yp (fun vs d w' h0 hC hF K hK=>?_) trivial;have f:=(hF (6,13) XN).2;clear hF;simp only[over,cq,cF,aS]at f ⊢;obtain⟨b,e2,hb⟩:=f;rw[e2];simp only at h0;have hz:=hC.2.2.size;refine mU cO.moves underlying22 hi2 ah ai aj lX YR YR lX ZR B (fun _=>False) fx lengths n ZR (hC.2.1 h0) b 1 [Bm Sj n] ZR ZR lX Tdj (fun j y hy=>?_) WQ WQ (fun _ _ f=>f) (fun gb cap w3 hp=>?_)
  ·exact TcI
  refine hK.o (FG (Vv gb) (lengths.length+1) cap) w3 ?_ ⟨hp.grown.size,fun k hk q3 q7=>hp.grown.block k hk fun e=>q7 lX e.symm⟩ ⟨gb,cap,aw lX,hp.own,hp.at'.imp id (fun q=>by omega)⟩ _ ?_
  ·simp only[show(d 3||(3:Nat)==7)=d 3 from by simp];exact TbA
  simp only[over,cq,cF,aS,e2]
 case fin =>
  intro vs d w' hC hF;have f3:=(hF (3,10) XN).2;have f7:=(hF (7,14) XN).2;clear hF;simp only[over,cq,cF,aS,cQ,cL]at f3 f7 ⊢;obtain⟨g1,p1,e3,o1,t1⟩:=f3;obtain⟨g2,p2,e7,o2,t2⟩:=f7;rw[e3,e7];generalize vs 2=v2;generalize vs 6=v6;have hm:=hC.2.2;clear hC e3 e7;have hz:=hm.size;have aE:=AH Ln WQ;have aG:=AH Ll WQ;have aH:=AH Lx WQ;have bn:=(hm.block Ln (aq hd.bn) aE).trans hd.bn;have bl:=(hm.block Ll (aq hd.bl) aG).trans hd.bl;have bx:=(hm.block Lx (aq hd.bx) aH).trans hd.bx;have oa:bF aQ 3 53 B (fun _=>False) w' av Ga:=hd.oa.Gl aQ.moves hz (fun k e=>hm.block k (hd.oa.ge e).2 (fun q=>q.elim (fun q=>hd.na k q e) (fun q=>hd.la k q e)));have q1:=cr bn 0 _ lX;have q2:w'.frozen? Ln=VN:=by simp[BT,bn]
  have q3:=cr bl 0 _ lX;have q4:w'.frozen? Ll=VN:=by simp[BT,bl]
  have x1:Ln≠Ll:=by omega
  have x2:Lx≠Ln:=by omega
  have x3:Lx≠Ll:=by omega
  generalize hW:(w'.setCell Ln (FG (Vv g1) (names.length+1) p1)).setCell Ll (FG (Vv g2) (lengths.length+1) p2)=W;have ab:∀k,k≠Ln->k≠Ll->W.1[k]?=w'.1[k]?:=fun k e1 e2=>by rw[<- hW,bw _ _ _ _ e2,bw _ _ _ _ e1]
  have ak:W.1.size=w'.1.size:=by rw[<- hW];simp[AF]
  have Zd:W.1[Ln]?=Vv (Sx #[FG (Vv g1) (names.length+1) p1] 26 (0,0)):=by
   rw[<- hW,bw _ _ _ _ x1];exact block_setCell (cs:=#[_]) (i:=0) _ bn
  have Ze:W.1[Ll]?=Vv (Sx #[FG (Vv g2) (lengths.length+1) p2] 22 (0,0)):=by
   exact TcB
  have UG:W.1[Lx]?=Vv (Sx (xs av) 55 (0,0)):=(ab Lx x2 x3).trans bx;have SV:bF aQ 3 53 B (fun _=>False) W av Ga:=oa.Gl aQ.moves WQ (fun k e=>ab k Tej Tej);have UH:bF aF 1 9 B (fun _=>False) W (FG (Vv g1) (names.length+1) p1) (names++[s]):=o1.Gl aF.moves WQ (fun k e=>ab k Tel Tel);have UI:bF cO 1 3 B (fun _=>False) W (FG (Vv g2) (lengths.length+1) p2) (lengths++[n]):=o2.Gl cO.moves WQ (fun k e=>ab k Tek Tek);have ay:cR (nJ Lx Ln Ll ft fx av) wd W:=by
   exact Tbq
  have aL:=o1.ge (k:=g1) lX;have aM:=o2.ge (k:=g2) lX;have az:W.cell? (XM Lx 3)=Vv av:=by simp[AN,UG,hxs]
  have SX:Lx<W.1.size:=aq UG;have aI:∀o,(W.alloc o).cell? (XM Lx 3)=Vv av:=fun o=>(cd (w:=W) (cj _ _ _ SX)).trans az;obtain⟨i3,ao,a7,a8,a9⟩:=gg kL;replace Zd:=aa Zd;replace Ze:=aa Ze;replace UG:=aa UG;replace ab:=aa ab;replace ao:=aa ao;replace a7:=aa a7;replace a8:=aa a8;replace a9:=aa a9;have Xh:=aa ak;clear ak;replace hxs:=aa hxs;clear bn bl bx au hi2 ae af ag ah ai aj cn cl
  go_wp2_with(at_builtin;refine dX aQ.moves underlying47 ao.o a7.o a8.o a9.o lX YR YR lX lX B (fun _=>False) av Ga ⟨VR,s,0⟩ lX ?c1 W.1.size 1 [Ft VR,By s,Bm Sj 0] lX rfl rfl ?c2 ?c3 ?c4 ?c5 (fun _ _ f=>f) ?_)
  case c1=>exact SV.Gl aQ.moves XN (fun k e=>cj _ _ _ (SV.ge e).2)
  case c2=>simp[Value.oneCell']
  case c3 =>
   intro j y hy;exact aD lX Tdr
  case c4=>omega
  case c5 =>
   have:=Xh.o;simp;omega
  intro g3 p3 w3 hp;have aJ:=hp.grown.size;rw[cW]at aJ;have ak:=Xh.o;have k3:∀k,k<W.1.size->av.ownBlock≠Vv k->w3.1[k]?=W.1[k]?:=fun k hk hn=>(hp.grown.block k ZY (fun e=>hn e.symm)).trans (cj _ _ _ hk);have nx:∀k,k<B->av.ownBlock≠Vv k:=fun k hk e=>by have:=(SV.ge e).1;omega
  have UJ:=(k3 Lx SX (nx Lx WQ)).trans UG.o;have y1:w3.cell? (XM Lx 3)=Vv av:=by simp[AN,UJ,hxs.o]
  have y2:w3.frozen? (XM Lx 3)=VN:=by simp[BT,UJ]
  replace UJ:=aa UJ;replace k3:=aa k3;have HP:=aa hp;clear hp;clear az aI ak;go_wp2;go_end0
  have aN:=HP.o.own.ge (k:=g3) lX;have Xj:av.ownBlock=Vv g3\/g3=W.1.size+1:=HP.o.at'.imp id (fun q=>by rw[q];simp);have ak:=Xh.o;have kk:∀k,k≠Lx->(w3.setCell (XM Lx 3) (FG (Vv g3) (Ga.length+1) p3)).1[k]?=w3.1[k]?:=fun k e=>bw _ _ _ _ e;have aO:(w3.setCell (XM Lx 3) (FG (Vv g3) (Ga.length+1) p3)).1.size=w3.1.size:=by simp[AF]
  have on5:bF aF 1 9 B (fun _=>False) (w3.setCell (XM Lx 3) (FG (Vv g3) (Ga.length+1) p3)) (FG (Vv g1) (names.length+1) p1) (names++[s]):=UH.Gl aF.moves WQ (fun k e=>(kk k (by have:=(UH.ge e).1;omega)).trans (k3.o k (UH.ge e).2 (UH.ne SV YR k e)));have ol5:bF cO 1 3 B (fun _=>False) (w3.setCell (XM Lx 3) (FG (Vv g3) (Ga.length+1) p3)) (FG (Vv g2) (lengths.length+1) p2) (lengths++[n]):=UI.Gl cO.moves WQ (fun k e=>(kk k (by have:=(UI.ge e).1;omega)).trans (k3.o k (UI.ge e).2 (UI.ne SV YR k e)));have am:bF aQ 3 53 B (fun _=>False) (w3.setCell (XM Lx 3) (FG (Vv g3) (Ga.length+1) p3)) (FG (Vv g3) (Ga.length+1) p3) (Ga++[⟨VR,s,0⟩]):=HP.o.own.Gl aQ.moves WQ (fun k e=>kk k (by have:=(HP.o.own.ge e).1;omega));refine⟨rfl,FG (Vv g1) (names.length+1) p1,FG (Vv g2) (lengths.length+1) p2,FG (Vv g3) (Ga.length+1) p3,⟨?_,?_,?_,on5,ol5,am,on5.ne ol5 YR,on5.ne am YR,ol5.ne am YR,hd1,hd2,aB⟩,?_,?_⟩
  ·exact(kk Ln (Ne.symm x2)).trans ((k3.o Ln (aq Zd.o) (nx Ln WQ)).trans Zd.o)
  ·exact(kk Ll (Ne.symm x3)).trans ((k3.o Ll (aq Ze.o) (nx Ll WQ)).trans Ze.o)
  ·have:=block_setCell (i:=3) (FG (Vv g3) (Ga.length+1) p3) UJ.o;rw[this,hxs.o,hxs.o];rfl
  ·have m2:cR (nJ Lx Ln Ll ft fx av) w W:=(Gk.mono (G:=nJ Lx Ln Ll ft fx av) (fun _ f=>f.elim)).trans ay (fun _ q=>.inl q);exact((m2.alloc _).trans (jA HP.o.grown) (fun k q=>.inl (.inr (.inr (.inr (.inr (.inr q))))))).setCell (p:=⟨Lx,3,VX⟩) (.inl (.inl lX)) _
  have mA:=Gk.size;have aP:=ay.size;rintro k (rfl|rfl|rfl|q|q|q)
  ·exact .inl (.inl lX)
  ·exact .inl (.inr (.inl lX))
  ·exact .inl (.inr (.inr (.inl lX)))
  ·exact TbN
  ·exact TbI
  have hk5:=(am.ge q).2;obtain rfl:g3=k:=by injection q
  rcases Xj with q1|q1
  ·exact .inl (.inr (.inr (.inr (.inr (.inr q1)))))
  exact .inr ⟨WQ,hk5⟩
def digit(i:Nat):H6:=⟨#[(48+i).toUInt8]⟩
def FX:H6:=⟨#[95,108,101,103]⟩
def qm:H6:=⟨#[95,108,111,103]⟩
def Ab:H6:=⟨#[95,109,101,116,97]⟩
def Aj:H6:=⟨#[95,100,97,116,97]⟩
def EO:H6:=⟨#[95,108,101,103,48]⟩
def Ex(name:H6)(i:Nat):H6:=(name++FX)++digit i
def aI(name:H6)(k:Nat):QN:=(FF k).map (Ex name)
def gB(l:QN):wy aR:=l.map fun s=>⟨VR,s,0⟩
def sW(l:QN)(s:H6):gB (l++[s])=gB l++[⟨VR,s,0⟩]:=by simp[gB]
def lN(name:H6)(k:Nat):aI name (k+1)=aI name k++[Ex name k]:=by simp[aI,List.range_succ]
inductive lZ (e n:Int)(name:H6):Int->QN->PI->aB->Prop
 |mirror (k:Nat) (hk:2<=k/\k<=3) (c:Int) (hc:1<=c/\c<=4) (st:PI) (hst:st=[]\/∃i:Int,0<=i/\i<k/\st=[i]):lZ e n name 3 (aI name k) (DE k n) ⟨0,n,3,gB (aI name k),c,st,es,es,0,0,0⟩
 |mirrorLog (k:Nat) (hk:2<=k/\k<=3) (c:Int) (hc:1<=c/\c<=4) (st:PI) (hst:st=[]\/∃i:Int,0<=i/\i<k/\st=[i]):lZ e n name 3 (aI name k++[name++qm]) (DE k n++[1+(1+(n*e+63)/64)/e]) ⟨0,n,3,gB (aI name k),c,st,name++qm,es,0,0,0⟩
 |parity (k:Nat) (hk:3<=k/\k<=4) (c:Int) (hc:c=1\/c=e):lZ e n name 4 (aI name k) (DE k (n+(15+e)/e)) ⟨0,n*(k-1),4,gB (aI name k),c,[],es,es,0,0,0⟩
 |pool (l c:Int) (hl:1<=l/\l<=3) (hc:1<=c/\c<=8):lZ e n name 5 [name++Ab,name++Aj] [l,n] ⟨0,n,5,gB [name++Ab,name++Aj],c,[],es,es,0,0,0⟩
 |cache (l m c:Int) (hl:1<=l/\l<=2) (hm:1<=m/\m<=2) (hc:1<=c/\c<=4):lZ e n name 7 [name++EO,name++Aj,name++Ab] [n,l,1] ⟨0,n,7,gB [name++EO,name++Aj,name++Ab],c,[],es,es,0,m,0⟩
def Tdo(h:gt:=by simp[aI]):=h
def TdT(h:gt:=by simp[aI];omega):=h
def lZ.ok{e:Int}{name:H6}{x:aB}(h:lZ e n name kind names lengths x)(h1:1<=e)(h2:e<=16)(h3:1<=n)(h4:n<=3):names.length=lengths.length/\names.length<=8/\∀l∈lengths,1<=l/\l<=1000:=by
 have hq:∀a:Int,0<=a->a<=200->0<=a/e/\a/e<=200:=fun a ha hb=>⟨lz ha WQ,Int.le_trans (mS _ ha) hb⟩;cases h with
 |mirror k hk c hc st hst =>
  refine⟨Tdo,TdT,fun l hl=>?_⟩;rw[tM]at hl;omega
 |mirrorLog k hk c hc st hst =>
  refine⟨Tdo,TdT,fun l hl=>?_⟩;rcases AS.1 hl with hl|hl
  ·rw[tM]at hl;omega
  simp only[dr,cY,dg]at hl;have b1:0<=n*e/\n*e<=48:=by rcases(show n=1\/n=2\/n=3 by omega)with rfl|rfl|rfl<;>omega
  have:=hq (1+(n*e+63)/64) WQ WQ;omega
 |parity k hk c hc =>
  refine⟨Tdo,TdT,fun l hl=>?_⟩;rw[tM]at hl;have:=hq (15+e) WQ WQ;omega
 |pool l c hl hc =>
  refine⟨rfl,XN,fun l hl=>?_⟩;simp only[dr,cY,dg]at hl;omega
 |cache l m c hl hm hc =>
  refine⟨rfl,XN,fun l hl=>?_⟩;simp only[dr,cY,dg]at hl;omega
def QA(len kind chunk:Int)(Rn:zY)(log:H6)(mode:Int):zY->Array zY:=fun v=>#[Bm Sj 0,Bm Sj len,Bm Sj kind,v,Bm Sj chunk,Rn,By log,By es,Bm Sj 0,Bm Sj mode,Bm Sj 0]
def Yc(X:LN)(Lx Ln Ll:Nat)(ft fx av:zY):Nat->Prop:=fun k=>X k\/nJ Lx Ln Ll ft fx av k
structure vq(X:LN)(bs bb:Nat)(nv vv:zY)(g:af)(next:PI)(w0:H7)(B Lx Ln Ll:Nat)(ft fx av Rn:zY)(names:QN)(lengths:PI)(Ga:wy aR)(st:PI)(len kind chunk:Int)(log:H6)(mode:Int)(w:H7):Prop where
 loc:Loc w B Lx Ln Ll ft fx av names lengths Ga (QA len kind chunk Rn log mode)
 post:aH (Yc X Lx Ln Ll ft fx av) bs bb nv vv w0 w nv vv g next
 rs:ck cO 1 (ZQ (Yc X Lx Ln Ll ft fx av) bb nv vv) w [Rn] st
 hB:B<=w.heap.size
 hL:w0.heap.size<=Lx
section
variable {X:LN}{bs bb:Nat}{nv vv:zY}{g:af}{next:PI}{w0 w w':H7}{B Lx Ln Ll:Nat}{ft fx av Rn ar3 Kf av':zY}{names:QN}{lengths:PI}{Ga:wy aR}{st:PI}{len kind chunk n:Int}{log s:H6}{mode:Int}
def vq.ge(h:vq X bs bb nv vv g next w0 B Lx Ln Ll ft fx av Rn names lengths Ga st len kind chunk log mode w){k:Nat}(hk:nJ Lx Ln Ll ft fx av k):w0.1.size<=k:=by
 have d1:=h.loc.d1;have d2:=h.loc.d2;have d3:=h.loc.d3;have hL:=h.hL;rcases hk with rfl|rfl|rfl|q|q|q
 ·exact hL
 ·omega
 ·omega
 ·have:=(h.loc.on.ge q).1;omega
 ·have:=(h.loc.ol.ge q).1;omega
 have:=(h.loc.oa.ge q).1;omega
def vq.below(h:vq X bs bb nv vv g next w0 B Lx Ln Ll ft fx av Rn names lengths Ga st len kind chunk log mode w)(hb:Below w.1.size w w'):vq X bs bb nv vv g next w0 B Lx Ln Ll ft fx av Rn names lengths Ga st len kind chunk log mode w' :=
 ⟨h.loc.keep hb.size (fun k hk=>hb.block k (h.post.bld.xlt k (.inr hk)).2),h.post.after hb,(ck.moves cO.moves).mv ⟨hb.size,fun b a5 ho=>⟨ho,hb.block b a5⟩⟩ h.rs,cA h.hB hb.size,h.hL⟩
def vq.read(h:vq X bs bb nv vv g next w0 B Lx Ln Ll ft fx av Rn names lengths Ga st len kind chunk log mode w)(hs:Src w' bs)(hm:cR (fun i=>i=bs) w w'):vq X bs bb nv vv g next w0 B Lx Ln Ll ft fx av Rn names lengths Ga st len kind chunk log mode w':=by
 have gO:=h.post.bld.lt;refine⟨h.loc.keep hm.size (fun k hk=>hm.block k (h.post.bld.xlt k (.inr hk)).2 (fun e=>by have:=(h.post.bld.xlt k (.inr hk)).1;omega)),h.post.read hs hm,(ck.moves cO.moves).mv ⟨hm.size,fun b a5 ho=>⟨ho,hm.block b a5 (fun e=>by have:=ho.1;omega)⟩⟩ h.rs,cA h.hB hm.size,h.hL⟩
theorem vq.add(h:vq X bs bb nv vv g next w0 B Lx Ln Ll ft fx av Rn names lengths Ga st len kind chunk log mode w)(p:FO w B Lx Ln Ll ft fx av names lengths Ga (QA len kind chunk Rn log mode) s n ar3 Kf av' w'):vq X bs bb nv vv g next w0 B Lx Ln Ll ar3 Kf av' Rn (names++[s]) (lengths++[n]) (Ga++[⟨VR,s,0⟩]) st len kind chunk log mode w':=by
 refine⟨p.loc,h.post.move ⟨p.mod.os,p.mod.tape,p.mod.output,p.mod.size,fun k hk hn=>p.mod.block k hk fun q=>hn ⟨.inr q,h.ge q⟩⟩ (fun k hk=>?_),(ck.moves cO.moves).mv ⟨p.mod.size,fun b hb ho=>⟨⟨ho.1,ho.2.1,ho.2.2.1,fun q=>?_⟩,p.mod.block b hb fun q=>ho.2.2.2 (.inr q)⟩⟩ h.rs,cA h.hB p.mod.size,h.hL⟩
 ·rcases hk with q|q
  ·exact .inl (.inl q)
  exact(p.fr k q).imp (fun q=>.inr q) id
 rcases q with q|q
 ·exact ho.2.2.2 (.inl q)
 rcases p.fr b q with q|q
 ·exact ho.2.2.2 (.inr q)
 omega
def vq.put(h:vq X bs bb nv vv g next w0 B Lx Ln Ll ft fx av Rn names lengths Ga st len kind chunk log mode w)(i:Nat)(u:zY){a7 Mb a5:Int}{a8:H6}(he:∀v,(QA len kind chunk Rn log mode v).setIfInBounds i u=QA a7 kind Mb Rn a8 a5 v):vq X bs bb nv vv g next w0 B Lx Ln Ll ft fx av Rn names lengths Ga st a7 kind Mb a8 a5 (w.setCell (Lx,i) u):=by
 have d1:=h.loc.d1;have d2:=h.loc.d2;have d3:=h.loc.d3;have hz:(w.setCell (Lx,i) u).1.size=w.1.size:=by simp[AF]
 have kk:∀k,k≠Lx->(w.setCell (Lx,i) u).1[k]?=w.1[k]?:=fun k e=>bw _ _ _ _ e;refine⟨⟨(kk Ln WQ).trans h.loc.bn,(kk Ll WQ).trans h.loc.bl,?_,h.loc.on.Gl aF.moves WQ (fun k e=>kk k (by have:=(h.loc.on.ge e).1;omega)),h.loc.ol.Gl cO.moves WQ (fun k e=>kk k (by have:=(h.loc.ol.ge e).1;omega)),h.loc.oa.Gl aQ.moves WQ (fun k e=>kk k (by have:=(h.loc.oa.ge e).1;omega)),h.loc.nl,h.loc.na,h.loc.la,d1,d2,d3⟩,h.post.put Lx i u (.inr (.inl lX)) h.hL,(ck.moves cO.moves).mv ⟨WQ,fun b hb ho=>⟨ho,kk b (fun e=>ho.2.2.2 (.inr (.inl e)))⟩⟩ h.rs,Teu,h.hL⟩
 rw[<- he];exact block_setCell (i:=i) u h.loc.bx
theorem vq.push2{w1:H7}{g1 p1 g2 p2:Nat}(h:vq X bs bb nv vv g next w0 B Lx Ln Ll ft fx av Rn names lengths Ga st len kind chunk log mode w)(hm:cR (fun k=>ft.ownBlock=Vv k\/fx.ownBlock=Vv k) w w1)
  (o1:bF aF 1 9 B (fun _=>False) w1 (FG (Vv g1) (names.length+1) p1) (names++[s])) (t1:ft.ownBlock=Vv g1\/w.1.size<=g1)
  (o2:bF cO 1 3 B (fun _=>False) w1 (FG (Vv g2) (lengths.length+1) p2) (lengths++[n])) (t2:fx.ownBlock=Vv g2\/w.1.size<=g2) :
  vq X bs bb nv vv g next w0 B Lx Ln Ll (FG (Vv g1) (names.length+1) p1) (FG (Vv g2) (lengths.length+1) p2) av Rn (names++[s]) (lengths++[n]) Ga st len kind chunk log mode ((w1.setCell Ln (FG (Vv g1) (names.length+1) p1)).setCell Ll (FG (Vv g2) (lengths.length+1) p2)) /\
   w1.cell? Ln=Vv ft/\w1.frozen? Ln=VN/\w1.cell? Ll=Vv fx/\w1.frozen? Ll=VN:=by
 have hd:=h.loc;have d1:=hd.d1;have d2:=hd.d2;have d3:=hd.d3;have hz:=hm.size;have AH:∀k,k<B->¬(ft.ownBlock=Vv k\/fx.ownBlock=Vv k):=fun k hk q=>q.elim (fun e=>by have:=(hd.on.ge e).1;omega) (fun e=>by have:=(hd.ol.ge e).1;omega);have bn:=(hm.block Ln (aq hd.bn) (AH Ln WQ)).trans hd.bn;have bl:=(hm.block Ll (aq hd.bl) (AH Ll WQ)).trans hd.bl;have bx:=(hm.block Lx (aq hd.bx) (AH Lx WQ)).trans hd.bx;have x1:Ln≠Ll:=by omega
 have x2:Lx≠Ln:=by omega
 have x3:Lx≠Ll:=by omega
 have oa:bF aQ 3 53 B (fun _=>False) w1 av Ga:=hd.oa.Gl aQ.moves hz (fun k e=>hm.block k (hd.oa.ge e).2 (fun q=>q.elim (fun q=>hd.na k q e) (fun q=>hd.la k q e)));refine⟨?_,cr bn _ _ lX,by simp[BT,bn],cr bl _ _ lX,by simp[BT,bl]⟩;generalize hW:(w1.setCell Ln (FG (Vv g1) (names.length+1) p1)).setCell Ll (FG (Vv g2) (lengths.length+1) p2)=W;have a7:∀k,k≠Ln->k≠Ll->W.1[k]?=w1.1[k]?:=fun k e1 e2=>by rw[<- hW,bw _ _ _ _ e2,bw _ _ _ _ e1]
 have a9:W.1.size=w1.1.size:=by rw[<- hW];simp[AF]
 have on5:=o1.Gl (w':=W) aF.moves WQ (fun k e=>a7 k Tel Tel);have ol5:=o2.Gl (w':=W) cO.moves WQ (fun k e=>a7 k Tek Tek);have a8:=oa.Gl (w':=W) aQ.moves WQ (fun k e=>a7 k Tej Tej);have a5:cR (nJ Lx Ln Ll ft fx av) w W:=by
  exact Tbq
 have fr:∀k,nJ Lx Ln Ll (FG (Vv g1) (names.length+1) p1) (FG (Vv g2) (lengths.length+1) p2) av k->nJ Lx Ln Ll ft fx av k\/(w.1.size<=k/\k<W.1.size):=by
  rintro k (rfl|rfl|rfl|q|q|q)
  ·exact .inl (.inl lX)
  ·exact .inl (.inr (.inl lX))
  ·exact .inl (.inr (.inr (.inl lX)))
  ·exact TbN
  ·exact TbI
  exact .inl (.inr (.inr (.inr (.inr (.inr q)))))
 refine⟨⟨?_,?_,(a7 Lx x2 x3).trans bx,on5,ol5,a8,on5.ne ol5 YR,on5.ne a8 YR,ol5.ne a8 YR,d1,d2,d3⟩,h.post.move ⟨a5.os,a5.tape,a5.output,a5.size,fun k hk hn=>a5.block k hk fun q=>hn ⟨.inr q,h.ge q⟩⟩ (fun k hk=>?_),(ck.moves cO.moves).mv ⟨a5.size,fun b hb ho=>⟨⟨ho.1,ho.2.1,ho.2.2.1,fun q=>?_⟩,a5.block b hb fun q=>ho.2.2.2 (.inr q)⟩⟩ h.rs,cA h.hB a5.size,h.hL⟩
 ·rw[<- hW,bw _ _ _ _ x1];exact block_setCell (cs:=#[_]) (i:=0) _ bn
 ·exact TcB
 ·rcases hk with q|q
  ·exact .inl (.inl q)
  exact(fr k q).imp (fun q=>.inr q) id
 rcases q with q|q
 ·exact ho.2.2.2 (.inl q)
 rcases fr b q with q|q
 ·exact ho.2.2.2 (.inr q)
 omega
def vq.stale{i:Int}(h:vq X bs bb nv vv g next w0 B Lx Ln Ll ft fx av Rn names lengths Ga st len kind chunk log mode w)(hb:w.1[b]?=Vv (Sx #[i] 3 (0,0)))(pC:bb<b)(hn:¬Yc X Lx Ln Ll ft fx av b)(a5:nv.ownBlock≠Vv b)(vA:vv.ownBlock≠Vv b) :
  vq X bs bb nv vv g next w0 B Lx Ln Ll ft fx av (FG (Vv b) 1 1) names lengths Ga [i] len kind chunk log mode (w.setCell (XM Lx 5) (FG (Vv b) 1 1)):=by
 have d1:=h.loc.d1;have d2:=h.loc.d2;have d3:=h.loc.d3;have hz:(w.setCell (XM Lx 5) (FG (Vv b) 1 1)).1.size=w.1.size:=by simp[AF]
 have kk:∀k,k≠Lx->(w.setCell (XM Lx 5) (FG (Vv b) 1 1)).1[k]?=w.1[k]?:=fun k e=>bw _ _ _ _ e;refine⟨⟨(kk Ln WQ).trans h.loc.bn,(kk Ll WQ).trans h.loc.bl,block_setCell (i:=5) _ h.loc.bx,h.loc.on.Gl aF.moves WQ (fun k e=>kk k (by have:=(h.loc.on.ge e).1;omega)),h.loc.ol.Gl cO.moves WQ (fun k e=>kk k (by have:=(h.loc.ol.ge e).1;omega)),h.loc.oa.Gl aQ.moves WQ (fun k e=>kk k (by have:=(h.loc.oa.ge e).1;omega)),h.loc.nl,h.loc.na,h.loc.la,d1,d2,d3⟩,h.post.put Lx 5 _ (.inr (.inl lX)) h.hL,?_,Teu,h.hL⟩
 exact ck.one (u:=[Bm Sj i]) ((kk b (fun e=>hn (.inr (.inl e)))).trans hb) ⟨pC,a5,vA,hn⟩ lX rfl
def vq.cx(h:vq X bs bb nv vv g next w0 B Lx Ln Ll ft fx av Rn names lengths Ga st len kind chunk log mode w)(i:Nat){v:zY}(hv:(QA len kind chunk Rn log mode av)[i]?=Vv v):w.cell? (Lx,i)=Vv v/\w.frozen? (Lx,i)=VN:=by
 refine⟨?_,by simp[BT,h.loc.bx]⟩;simp only[AN,h.loc.bx];simpa using hv
end
variable {w a:H7}{B:Nat}{v:zY}{l:PI}
def eW.c4{bs bb:Nat}{nv:zY}{g:af}{next:PI}(h:eW X w bs bb nv vv g next):w.cell? (XM bb 4)=Vv (Bm Sj g.Gd):=by
 exact TcG
def EM(X:LN)(bs bb:Nat)(nv vv:zY)(g:af)(next:PI)(w0:H7)(L:Nat)(n:Int)(name:H6)(kind:Int)(w:H7):Prop :=
 ∃(ft fx av Rn:zY) (names:QN) (lengths:PI) (x:aB),lZ g.Gd n name kind names lengths x/\vq X bs bb nv vv g next w0 (L+1+1+1) L (L+1) (L+1+1) ft fx av Rn names lengths x.Ga x.stale x.length kind x.chunk x.log x.mode w
def tT:H6:=⟨#[116]⟩
def jY(name:H6)(id len:Int)(i:Nat):ay:=⟨(name++tT)++digit i,id,VN,VN,[],[⟨0,len,6,[],0,[],es,name,i,0,0⟩]⟩
inductive iO (id:Int)(name:H6)(k:Nat):Int->Nat->wy ay->Prop
 |nil (c:Int):iO id name k c k []
 |snoc {c:Int} {j:Nat} {vl:wy ay} {len:Int} (h:iO id name k c (j+1) vl) (hl:1<=len/\len<=4):iO id name k c j (vl++[jY name (oX id (c+vl.length)) len (j+1)])
def FD(X:LN)(bs bb:Nat)(nv vv:zY)(g:af)(next:PI)(name:H6)(kind:Int)(w w':H7):Prop :=
 (∃(j:Nat) (nv' pA:zY),j<=8/\aH X bs bb nv vv w w' nv' pA { g with next:=g.next+j } next) \/
 ∃(n:Int) (names:QN) (lengths:PI) (x:aB) (ps:wy (H6 × H5)) (vl:wy ay) (ro:Bool) (tags:QN) (k j:Nat) (tl:wy ay) (next':PI) (pA:zY),
  1<=n/\n<=3/\lZ g.Gd n name kind names lengths x/\lD g.id g.next names lengths ps vl/\fZ g.Gb next ps next'/\List.Sublist tags iQ/\k<=2/\(kind≠5->k=j/\k=0)/\iO g.id name k (g.next+names.length+1+1) j tl /\
  aH X bs bb nv vv w w' nv pA { g with next:=g.next+names.length+1+tl.length,F9:=g.F9++vl++[⟨name,oX g.id (g.next+names.length+1),VN,ro,tags,[x]⟩]++tl } next'
def iW(n:Nat):Code->Option Code
 |.block m c=>bif Nat.beq m n then Vv (.block m c) else iW n c
 |.seq a b=>match iW n a with
  |some c=>Vv c
  |none=>iW n b
 |.loop c=>iW n c
 |.scope c=>iW n c
 |.cond _ a b=>match iW n a with
  |some c=>Vv c
  |none=>iW n b
 |_=>VX
noncomputable def u6:Code:=((Tryz.f19.body.bind (iW 0)).getD .skip)
def kG(X:LN)(bs bb:Nat)(nv vv:zY)(g:af)(next:PI)(w0:H7)(L:Nat)(n:Int)(name:H6)(kind:Int)(J:Act->H7->Prop):Prop :=
 ∀(a':Act) (w':H7),(∃u12 u13 u14 u16 u17 u18 u19 u20 u21 u22 u23 u24 u25 u26 u27 u28 u29 u31 u32 u33 u34 u35 u36 u37 u38 u39 u40 u41 u42 u43 u44 u45 u46 u47 u48 u49 u50 u51 u52 u53 u54 u55 u56 u57 u58 u59 u60 u61 u62 u63 u64 u65 u66 u67 u68 u69 u70 u71 u72 u73 u74 u75 u76 u77 u78 u79 u80 u81 u82 u83 u84 u85 u86 u87 u88 u89 u90 u91 u92 u93 u94 u95 u96 u97 u98 u99 u100 u101 u102 u103 u104 u105 u106 u107 u108 u109 u110 u111 u112 u113 u114 u115 u116 u117 u118 u119 u120 u121 u122 u123 u124 u125 u126 u127 u128 u129 u130 u131 u132 u133 u134 u135 u136 u137 u138 u139 u140 u141 u142 u143 u144 u145 u146 u147 u148 u149 u150 u151 u152 u153 u154 u155 u156 u157 u158 u159 u160 u161 u162 u163 u164 u165 u166 u167 u168 u169 u170 u171 u172 u173 u174 u175 u176 u177 u178 u179 u180 u181 u182 u183 u184 u185 u186 u187 u188 u189 u190 u191 u192 u193 u194 u195 u196 u197 u198 u199 u200 u201 u202 u203 u204 u205 u206 u207 u208 u209 u210 u211 u212 u213 u214 u215 u216 u217 u218 u219 u220 u221 u222 u223 u224 u225 u226 u227 u228 u229 u230 u231 u232 u233 u234 u235 u236 u237 u238 u239 u240 u241 u242 u243 u244 u245 u246 u247 u248 u249 u250 u251 u252 u253 u254 u255 u256 u257 u258 u259 u260 u261 u262 u263 u264 u265 u266 u267 u268 u269 u270 u271 u272 u273 u274 u275 u276 u277 u278:zY,EM X bs bb nv vv g next w0 L n name kind w'/\a'=⟨#[SL (Vv bb),By name,Bm Sj kind,uu,uu,uu,Bm Sj g.Gd,Bm Sj n,SL (Vv L),SL (Vv (XM (L+1) 0)),SL (Vv (XM (L+1+1) 0)),.func (.func 44) #[] #[SL (Vv (XM (L+1) 0)),SL (Vv (XM (L+1+1) 0)),L],u12,u13,u14,uu,u16,u17,u18,u19,u20,u21,u22,u23,u24,u25,u26,u27,u28,u29,Bm Sj kind,u31,u32,u33,u34,u35,u36,u37,u38,u39,u40,u41,u42,u43,u44,u45,u46,u47,u48,u49,u50,u51,u52,u53,u54,u55,u56,u57,u58,u59,u60,u61,u62,u63,u64,u65,u66,u67,u68,u69,u70,u71,u72,u73,u74,u75,u76,u77,u78,u79,u80,u81,u82,u83,u84,u85,u86,u87,u88,u89,u90,u91,u92,u93,u94,u95,u96,u97,u98,u99,u100,u101,u102,u103,u104,u105,u106,u107,u108,u109,u110,u111,u112,u113,u114,u115,u116,u117,u118,u119,u120,u121,u122,u123,u124,u125,u126,u127,u128,u129,u130,u131,u132,u133,u134,u135,u136,u137,u138,u139,u140,u141,u142,u143,u144,u145,u146,u147,u148,u149,u150,u151,u152,u153,u154,u155,u156,u157,u158,u159,u160,u161,u162,u163,u164,u165,u166,u167,u168,u169,u170,u171,u172,u173,u174,u175,u176,u177,u178,u179,u180,u181,u182,u183,u184,u185,u186,u187,u188,u189,u190,u191,u192,u193,u194,u195,u196,u197,u198,u199,u200,u201,u202,u203,u204,u205,u206,u207,u208,u209,u210,u211,u212,u213,u214,u215,u216,u217,u218,u219,u220,u221,u222,u223,u224,u225,u226,u227,u228,u229,u230,u231,u232,u233,u234,u235,u236,u237,u238,u239,u240,u241,u242,u243,u244,u245,u246,u247,u248,u249,u250,u251,u252,u253,u254,u255,u256,u257,u258,u259,u260,u261,u262,u263,u264,u265,u266,u267,u268,u269,u270,u271,u272,u273,u274,u275,u276,u277,u278],[]⟩)->J a' w'
def Nn(k:Int):Prop :=
 ∀(X:LN) (bs bb:Nat) (nv vv:zY) (g:af) (next:PI) (w:H7) (name:H6) (_:name.size<=100) (_:1<=g.Gd) (_:g.Gd<=16) (n:Int) (_:1<=n) (_:n<=3) (L:Nat) (W:H7)
  (_:vq X bs bb nv vv g next w (L+1+1+1) L (L+1) (L+1+1) (FG VX 0 0) (FG VX 0 0) (FG VX 0 0) (FG VX 0 0) [] [] [] [] n k 1 es 0 W)
  (J K':Act->H7->Prop) (Q0:Ending->H7->Prop)
  (_:kG X bs bb nv vv g next w L n name k J)
  (_:∀(a':Act) (w':H7),Met J a' w'->K' a' w'),
  Code.wp prog u6 (Exit.then K' (bodyPost prog Tryz.f19 Q0)) ⟨#[SL (Vv bb),By name,Bm Sj k,uu,uu,uu,Bm Sj g.Gd,Bm Sj n,SL (Vv L),SL (Vv (XM (L+1) 0)),SL (Vv (XM (L+1+1) 0)),.func (.func 44) #[] #[SL (Vv (XM (L+1) 0)),SL (Vv (XM (L+1+1) 0)),L],uu,uu,uu,uu,SL (Vv bb),SL (Vv bb),SL (Vv (XM bb 1)),SL (Vv (XM bb 4)),Bm Sj g.Gd,SL (Vv bb),SL (Vv bb),SL (Vv bb),SL (Vv bs),Bm Sj n,Bm Sj n,Bm Sj k,Tk #[Bm Sj 0,n,k,FG VX 0 0,Bm Sj 1,FG VX 0 0,By ⟨#[]⟩,By ⟨#[]⟩,Bm Sj 0,Bm Sj 0,Bm Sj 0],.func (.func 44) #[] #[SL (Vv (XM (L+1) 0)),SL (Vv (XM (L+1+1) 0)),L],Bm Sj k,uu,uu,uu,uu,uu,uu,uu,uu,uu,uu,uu,uu,uu,uu,uu,uu,uu,uu,uu,uu,uu,uu,uu,uu,uu,uu,uu,uu,uu,uu,uu,uu,uu,uu,uu,uu,uu,uu,uu,uu,uu,uu,uu,uu,uu,uu,uu,uu,uu,uu,uu,uu,uu,uu,uu,uu,uu,uu,uu,uu,uu,uu,uu,uu,uu,uu,uu,uu,uu,uu,uu,uu,uu,uu,uu,uu,uu,uu,uu,uu,uu,uu,uu,uu,uu,uu,uu,uu,uu,uu,uu,uu,uu,uu,uu,uu,uu,uu,uu,uu,uu,uu,uu,uu,uu,uu,uu,uu,uu,uu,uu,uu,uu,uu,uu,uu,uu,uu,uu,uu,uu,uu,uu,uu,uu,uu,uu,uu,uu,uu,uu,uu,uu,uu,uu,uu,uu,uu,uu,uu,uu,uu,uu,uu,uu,uu,uu,uu,uu,uu,uu,uu,uu,uu,uu,uu,uu,uu,uu,uu,uu,uu,uu,uu,uu,uu,uu,uu,uu,uu,uu,uu,uu,uu,uu,uu,uu,uu,uu,uu,uu,uu,uu,uu,uu,uu,uu,uu,uu,uu,uu,uu,uu,uu,uu,uu,uu,uu,uu,uu,uu,uu,uu,uu,uu,uu,uu,uu,uu,uu,uu,uu,uu,uu,uu,uu,uu,uu,uu,uu,uu,uu,uu,uu,uu,uu,uu,uu,uu,uu,uu,uu,uu,uu,uu,uu,uu,uu,uu,uu,uu,uu,uu,uu,uu,uu,uu,uu],[]⟩ W
def TbO(h:gt:=by
 go_wp2;go_roundw
 case rel =>
  refine⟨j+1,aE7,aE8,SY,WQ,Zf,?_⟩;rw[lN,sW,List.replicate_succ'];exact T5
 simp[intOf];omega):=h
def TdB(h:gt:=by simp[gB,aI];omega):=h
theorem xW:Nn 3:=by
 intro X bs bb nv vv g next w name ay aZ b8 n hn1 hn2 L W T0 J K' Q0 HJ hK;conv=>arg 2;whnf
 go_upto_block 1 with(fail)
 go_wp2;go_loopw[12] (fun i wr=>∃(j:Nat) (ft fx av:zY),j<=3/\i=Bm Sj j/\vq X bs bb nv vv g next w (L+1+1+1) L (L+1) (L+1+1) ft fx av (FG VX 0 0) (aI name j) (DE j n) (gB (aI name j)) [] n 3 1 es 0 wr) (fun i _=>3-(intOf i).toNat)
 exact⟨0,_,_,_,WQ,rfl,T0⟩;obtain⟨j,ft,fx,av,hj,rfl,T1⟩:=hrel;have c0:=T1.post.bld.c0;go_wp2_with fail;refine(bY bs 2 _ WQ WQ T1.post.bld.src).mono ?_;rintro e w2 ⟨v,rfl,ba,bd,hs2,az⟩;have T2:=T1.read hs2 az;clear az hs2 c0 T1;by_cases hlt:(j:Int)<2+v
 ·have z1:(0:Int)<=(j:Int):=by omega
  have z2:(j:Int)<3:=by omega
  have aG:V7 ((j:Int)<2+v)=VR:=by simpa using hlt
  have a7:(w2.alloc (Sx #[By ⟨#[48]⟩,By ⟨#[49]⟩,By ⟨#[50]⟩] 9)).cell? (w2.1.size,j)=Vv (By (digit j)):=by
   refine aD lX ?_;rcases(show j=0\/j=1\/j=2 by omega)with rfl|rfl|rfl<;>rfl
  have QH:(digit j).size=1:=rfl;have T3:=T2.below (ae w2 (Sx #[By ⟨#[48]⟩,By ⟨#[49]⟩,By ⟨#[50]⟩] 9));go_wp2_with fail;refine(jM (fun _=>rfl) T3.loc T3.hB TdT ZY TdB).mono ?_;rintro e w3 ⟨rfl,aE7,aE8,SY,A1⟩;have T5:=T3.add A1;clear A1 a7;exact TbO
 have aG:V7 ((j:Int)<2+v)=VN:=by simpa using hlt
 have ai:2<=j:=by omega
 have c0:=T2.post.bld.c0;go_wp2_with fail;refine(bO bs 1 4 _ WQ WQ WQ T2.post.bld.src).mono ?_;rintro e w3 ⟨c,rfl,aj,ak,hs3,aA⟩;have T3:=T2.read hs3 aA;clear aA hs3 c0 T2;obtain⟨x4,f4⟩:=T3.cx 4 lX;have T4:vq X bs bb nv vv g next w (L+1+1+1) L (L+1) (L+1+1) ft fx av (FG VX 0 0) (aI name j) (DE j n) (gB (aI name j)) [] n 3 c es 0 (w3.setCell (XM L 4) (Bm Sj c)):=T3.put 4 _ (fun _=>rfl);have c0:=T4.post.bld.c0;go_wp2_with fail;refine(bY bs 2 _ WQ WQ T4.post.bld.src).mono ?_;rintro e w4 ⟨v4,rfl,aH,aJ,aB,aC⟩;have T5:=T4.read aB aC;clear aC aB c0 x4 f4 T3 T4;by_cases hv40:v4=0
 ·subst hv40;have T6:vq X bs bb nv vv g next w (L+1+1+1) L (L+1) (L+1+1) ft fx av (FG VX 0 0) (aI name j) (DE j n) (gB (aI name j)) [] n 3 c (name++qm) 0 (w4.setCell (XM L 6) (By (name++qm))):=T5.put 6 _ (fun _=>rfl);obtain⟨x6,f6⟩:=T5.cx 6 lX;have aK:¬(9223372036854775807<name.size+4):=by omega
  go_wp2;have aL:name++(⟨#[95,108,111,103]⟩:H6)=name++qm:=rfl;rw[aL];generalize WE:AF w4 _ _=WW at *;clear WE x6 f6 T5;have q1:=cr T6.loc.bn 0 _ lX;have q2:=cr T6.loc.bl 0 _ lX;have q3:=(T6.cx 6 lX).1;have be:0<=n*g.Gd/\n*g.Gd<=48:=by rcases(show n=1\/n=2\/n=3 by omega)with rfl|rfl|rfl<;>omega
  have bf:=be.1;have bg:=be.2;have am:¬g.Gd=0:=by omega
  have aM:(g.Gd==0)=VN:=by simpa using am
  have bh:0<=(1+(n*g.Gd+63)/64)/g.Gd:=lz WQ WQ;have bi:(1+(n*g.Gd+63)/64)/g.Gd<=100:=Int.le_trans (mS _ WQ) WQ;have aN:IntKind.i64.wrap (n*g.Gd)=n*g.Gd:=dy _ WQ;have aO:IntKind.i64.wrap (n*g.Gd+63)=n*g.Gd+63:=dy _ WQ;have aQ:(n*g.Gd+63).tdiv 64=(n*g.Gd+63)/64:=CC WQ;have aR:IntKind.i64.wrap ((n*g.Gd+63)/64)=(n*g.Gd+63)/64:=dy _ WQ;have aT:IntKind.i64.wrap (1+(n*g.Gd+63)/64)=1+(n*g.Gd+63)/64:=dy _ WQ;have aU:(1+(n*g.Gd+63)/64).tdiv g.Gd=(1+(n*g.Gd+63)/64)/g.Gd:=CC WQ;have aV:IntKind.i64.wrap ((1+(n*g.Gd+63)/64)/g.Gd)=(1+(n*g.Gd+63)/64)/g.Gd:=dy _ WQ;have aW:IntKind.i64.wrap (1+(1+(n*g.Gd+63)/64)/g.Gd)=1+(1+(n*g.Gd+63)/64)/g.Gd:=dy _ WQ;refine gW (fun w'=>w'.cell? (XM (L+1) 0)=Vv ft/\w'.cell? (XM (L+1+1) 0)=Vv fx/\w'.cell? (XM L 6)=Vv (By (name++qm))) 17 [1,6,7,8,9,10,11,12,13,14] Yp ⟨q1,q2,q3⟩ (fun a5=>?_);refine fz 1 ?_;refine fz 6 ?_;refine fz 7 ?_;refine fz 8 ?_;refine fz 9 ?_;refine fz 10 ?_;refine fz 11 ?_;refine fz 12 ?_;refine fz 13 ?_;refine fz 14 ?_;refine fS 0 a5 ?_;refine fS 2 a5 ?_;refine fS 5 a5 ?_;clear aN aO aQ aR aT aU aV aW;have TT:=T6.below ((bj _ _).drew);generalize aX:WW.drew=wd at *;clear aX q1 q2 q3 T6;have hd:=TT.loc;obtain⟨i1,aE,a8,a9,aa⟩:=gg CJ;obtain⟨i2,hi2,ab,af,ag⟩:=gg tZ;have AH:∀k,k<(L+1+1+1)->¬(ft.ownBlock=Vv k\/fx.ownBlock=Vv k):=fun k hk q=>q.elim (fun e=>by have:=(hd.on.ge e).1;omega) (fun e=>by have:=(hd.ol.ge e).1;omega)
  refine fE (idx:=[(3,71),(4,72),(15,83),(16,84)]) (fun i=>[i])
   (fun i vs w'=>match i with
    |3=>∃b,vs 3=FG (Vv ⟨b,0,VX⟩) 1 1/\dS wd.1.size 9 [By (name++qm)] b w'
    |4=>∃gb cap,vs 4=FG (Vv ⟨gb,0,VX⟩) ((aI name j).length+1) cap/\bF aF 1 9 (L+1+1+1) (fun _=>False) w' (FG (Vv ⟨gb,0,VX⟩) ((aI name j).length+1) cap) (aI name j++[name++qm])/\(ft.ownBlock=Vv gb\/wd.1.size<=gb)
    |15=>∃b,vs 15=FG (Vv ⟨b,0,VX⟩) 1 1/\dS wd.1.size 3 [Bm Sj (1+(1+(n*g.Gd+63)/64)/g.Gd)] b w'
    |16=>∃gb cap,vs 16=FG (Vv ⟨gb,0,VX⟩) ((DE j n).length+1) cap/\bF cO 1 3 (L+1+1+1) (fun _=>False) w' (FG (Vv ⟨gb,0,VX⟩) ((DE j n).length+1) cap) (DE j n++[1+(1+(n*g.Gd+63)/64)/g.Gd])/\(fx.ownBlock=Vv gb\/wd.1.size<=gb)
    |_=>True)
   (fun d w'=>(d 4=VN->bF aF 1 9 (L+1+1+1) (fun _=>False) w' ft (aI name j))/\(d 16=VN->bF cO 1 3 (L+1+1+1) (fun _=>False) w' fx (DE j n))/\cR (fun k=>ft.ownBlock=Vv k\/fx.ownBlock=Vv k) wd w')
   (fun i w1 w2=>w1.1.size<=w2.1.size/\∀k,k<w1.1.size->(i=4->ft.ownBlock≠Vv k)->(i=16->fx.ownBlock≠Vv k)->w2.1[k]?=w1.1[k]?) Yp lX ?cs ?st (fun _ _ _ _ h=>h) ?c0 ?ob ?fin
  case c0=>exact⟨fun _=>hd.on,fun _=>hd.ol,cR.refl _ _⟩
  case st =>
   intro p hp q _ hne vs us w1 w2 ha hF he;simp only[dr,cY,dg]at hp;rcases hp with rfl|rfl|rfl|rfl
   ·obtain⟨b,e,hb⟩:=hF;exact⟨b,(ha 3 (cG ..)).trans e,hb.1,(he.2 b (aq hb.2) (fun _ e=>by have:=(hd.on.ge e).2;have:=hb.1;omega) (fun _ e=>by have:=(hd.ol.ge e).2;have:=hb.1;omega)).trans hb.2⟩
   ·obtain⟨gb,cap,e,ho,hat⟩:=hF;refine⟨gb,cap,(ha 4 (cG ..)).trans e,ho.Gl aF.moves he.1 (fun k ek=>he.2 k (ho.ge ek).2 (fun q3=>absurd q3 hne) (fun _ e7=>?_)),hat⟩;exact Tcd
   ·obtain⟨b,e,hb⟩:=hF;exact⟨b,(ha 15 (cG ..)).trans e,hb.1,(he.2 b (aq hb.2) (fun _ e=>by have:=(hd.on.ge e).2;have:=hb.1;omega) (fun _ e=>by have:=(hd.ol.ge e).2;have:=hb.1;omega)).trans hb.2⟩
   obtain⟨gb,cap,e,ho,hat⟩:=hF;refine⟨gb,cap,(ha 16 (cG ..)).trans e,ho.Gl cO.moves he.1 (fun k ek=>he.2 k (ho.ge ek).2 (fun _ e3=>?_) (fun q7=>absurd q7 hne)),hat⟩;exact Tce
  case ob =>
   refine kA.cons (deps:=[]) lX rfl Yp (fun vs d w' h0 hC hF K hK=>?_) ?_
   ·clear hF;simp only[over,cq,Act.put];go_simp;refine hK.o (FG (Vv w'.1.size) 1 1) _ ?_ ⟨XN,fun k hk _ _=>cj _ _ _ hk⟩ ⟨_,aw lX,dS.new hC.2.2.size⟩ _ ?_
    ·simp only[show(d 4||(4:Nat)==3)=d 4 from by simp,show(d 16||(16:Nat)==3)=d 16 from by simp];exact TbB
    simp only[over,cq,aS]
   refine kA.cons (deps:=[(3,71)]) lX rfl Yp (fun vs d w' h0 hC hF K hK=>?_) ?_
   ·have f:=(hF (3,71) XN).2;clear hF;simp only[over,cq,cF,aS]at f ⊢;obtain⟨b,e2,hb⟩:=f;rw[e2];simp only at h0;have hz:=hC.2.2.size;refine mU aF.moves underlying26 aE a8 a9 aa lX YR YR lX ZR (L+1+1+1) (fun _=>False) ft (aI name j) (name++qm) ZR (hC.1 h0) b 1 [By (name++qm)] ZR ZR lX Tdj (fun j y hy=>?_) TdT (cA TT.hB hz) (fun _ _ f=>f) (fun gb cap w3 hp=>?_)
    ·exact TcI
    refine hK.o (FG (Vv gb) (((aI name j)).length+1) cap) w3 ?_ ⟨hp.grown.size,fun k hk qa qb=>hp.grown.block k hk fun e=>qa lX e.symm⟩ ⟨gb,cap,aw lX,hp.own,hp.at'.imp id (fun q=>by omega)⟩ _ ?_
    ·simp only[show(d 16||(16:Nat)==4)=d 16 from by simp];exact Tbz
    simp only[over,cq,cF,aS,e2]
   refine kA.cons (deps:=[]) lX rfl Yp (fun vs d w' h0 hC hF K hK=>?_) ?_
   ·clear hF;simp only[over,cq,Act.put];go_simp;refine hK.o (FG (Vv w'.1.size) 1 1) _ ?_ ⟨XN,fun k hk _ _=>cj _ _ _ hk⟩ ⟨_,aw lX,dS.new hC.2.2.size⟩ _ ?_
    ·simp only[show(d 4||(4:Nat)==15)=d 4 from by simp,show(d 16||(16:Nat)==15)=d 16 from by simp];exact TbB
    simp only[over,cq,aS]
   refine kA.cons (deps:=[(15,83)]) lX rfl Yp (fun vs d w' h0 hC hF K hK=>?_) trivial;have f:=(hF (15,83) XN).2;clear hF;simp only[over,cq,cF,aS]at f ⊢;obtain⟨b,e2,hb⟩:=f;rw[e2];simp only at h0;have hz:=hC.2.2.size;refine mU cO.moves underlying22 hi2 ab af ag lX YR YR lX ZR (L+1+1+1) (fun _=>False) fx (DE j n) (1+(1+(n*g.Gd+63)/64)/g.Gd) ZR (hC.2.1 h0) b 1 [Bm Sj (1+(1+(n*g.Gd+63)/64)/g.Gd)] ZR ZR lX Tdj (fun j y hy=>?_) (by simp[];omega) (cA TT.hB hz) (fun _ _ f=>f) (fun gb cap w3 hp=>?_)
   ·exact TcI
   refine hK.o (FG (Vv gb) (((DE j n)).length+1) cap) w3 ?_ ⟨hp.grown.size,fun k hk qa qb=>hp.grown.block k hk fun e=>qb lX e.symm⟩ ⟨gb,cap,aw lX,hp.own,hp.at'.imp id (fun q=>by omega)⟩ _ ?_
   ·simp only[show(d 4||(4:Nat)==16)=d 4 from by simp];exact TbA
   simp only[over,cq,cF,aS,e2]
  case cs =>
   intro d w' hC;have hm:=hC.2.2;refine⟨?_,?_,?_⟩
   ·rw[hm.cell (p:=⟨L+1,0,VX⟩) (aq hd.bn) (AH (L+1) WQ)];simp[AN,hd.bn]
   ·rw[hm.cell (p:=⟨L+1+1,0,VX⟩) (aq hd.bl) (AH (L+1+1) WQ)];simp[AN,hd.bl]
   rw[hm.cell (p:=⟨L,6,VX⟩) (aq hd.bx) (AH L WQ)];exact(TT.cx 6 lX).1
  case fin =>
   intro vs d w' hC hF;have f3:=(hF (4,72) XN).2;have f7:=(hF (16,84) XN).2;clear hF;simp only[over,cq,cF,aS,cQ,cL]at f3 f7 ⊢;obtain⟨g1,p1,e3,o1,t1⟩:=f3;obtain⟨g2,p2,e7,o2,t2⟩:=f7;rw[e3,e7];generalize vs 3=u3;generalize vs 15=u15;obtain⟨T7,y1,y2,y3,y4⟩:=TT.push2 hC.2.2 o1 t1 o2 t2;simp only[List.length_replicate]at T7;clear hC e3 e7 o1 o2 t1 t2 hd AH TT aE hi2 a8 a9 aa ab af ag a5;have c0:=T7.post.bld.c0;go_wp2_with fail;refine(bY bs 3 _ WQ WQ T7.post.bld.src).mono ?_;rintro e wA ⟨v3,rfl,ao,au,SZ,S0⟩;have TA:=T7.read SZ S0;clear S0 SZ c0;by_cases hv30:v3=0
   ·subst hv30;obtain⟨ap,ac,B4⟩:∃ap ac,av=FG ap j ac:=by
     obtain⟨p,c,e,_⟩:=TA.loc.oa.form;refine⟨p,c,?_⟩;rw[e];simp[gB,aI]
    subst B4;have ah:=TA.post.bld.c0;have ca:=(TA.cx 3 lX).1;have G2:=TA.post.bld.Gj;have UA:=(TA.post.bld.xlt L (.inr (.inl lX))).2;have aY:=(TA.post.bld.xlt L (.inr (.inl lX))).1;go_wp2;refine gW (fun w'=>w'.cell? bb=Vv (SL (Vv bs))/\w'.cell? (XM L 3)=Vv (FG ap j ac)) 9 [0,1,2,4] Yp ⟨ah,ca⟩ (fun a5=>?_);refine fz 0 ?_;refine fz 1 ?_;refine fz 2 ?_;refine fz 4 ?_;refine fS 3 a5 ?_;refine fS 5 a5 ?_;refine fS 6 a5 ?_;refine lR 7 fun K hK=>?_;go_simp;refine(bY bs (j:Int) _ WQ WQ (TA.below ((bj _ _).drew)).post.bld.src).mono ?_;rintro e wB ⟨vi,rfl,PR,Xk,S1,S3⟩;have TB:=(TA.below ((bj _ _).drew)).read S1 S3;refine hK.o _ _ ⟨TB.post.bld.c0,(TB.cx 3 lX).1⟩ ?_;clear hK K S1 S3 ah ca a5 TA;refine lR 8 fun K hK=>?_;go_simp;have TC:=TB.below (ae wB (Sx #[Bm Sj vi] 3));refine hK.o _ _ ⟨TC.post.bld.c0,(TC.cx 3 lX).1⟩ ?_;clear hK K;refine aP Yp lX ?_;simp only[cQ,cL];obtain⟨x5,f5⟩:=TC.cx 5 lX;go_wp2;have hJ:=HJ;unfold kG at hJ;go_meet;refine⟨_,_,_,_,_,_,_,.mirrorLog j ⟨ai,hj⟩ c ⟨aj,ak⟩ [vi] (.inr ⟨vi,PR,WQ,rfl⟩),TC.stale (b9 wB _) (by have:=TB.post.bld.Gj;omega) (fun q=>by have:=(TB.post.bld.xlt _ q).2;omega) (fun q=>by have:=(TB.post.bld.nLt q).2;omega) (fun q=>by have:=(TB.post.bld.vLt q).2;omega)⟩
   have XV:(v3==0)=VN:=by simpa using hv30
   go_wp2;have hJ:=HJ;unfold kG at hJ;go_meet;exact⟨_,_,_,_,_,_,_,.mirrorLog j ⟨ai,hj⟩ c ⟨aj,ak⟩ [] (.inl lX),TA⟩
 have bk:(v4==0)=VN:=by simpa using hv40
 have c0:=T5.post.bld.c0;go_wp2_with fail;refine(bY bs 3 _ WQ WQ T5.post.bld.src).mono ?_;rintro e wA ⟨v3,rfl,ao,au,SZ,S0⟩;have TA:=T5.read SZ S0;clear S0 SZ c0;by_cases hv30:v3=0
 ·subst hv30;obtain⟨ap,ac,B4⟩:∃ap ac,av=FG ap j ac:=by
   obtain⟨p,c,e,_⟩:=TA.loc.oa.form;refine⟨p,c,?_⟩;rw[e];simp[gB,aI]
  subst B4;have ah:=TA.post.bld.c0;have ca:=(TA.cx 3 lX).1;have G2:=TA.post.bld.Gj;have UA:=(TA.post.bld.xlt L (.inr (.inl lX))).2;have aY:=(TA.post.bld.xlt L (.inr (.inl lX))).1;go_wp2;refine gW (fun w'=>w'.cell? bb=Vv (SL (Vv bs))/\w'.cell? (XM L 3)=Vv (FG ap j ac)) 9 [0,1,2,4] Yp ⟨ah,ca⟩ (fun a5=>?_);refine fz 0 ?_;refine fz 1 ?_;refine fz 2 ?_;refine fz 4 ?_;refine fS 3 a5 ?_;refine fS 5 a5 ?_;refine fS 6 a5 ?_;refine lR 7 fun K hK=>?_;go_simp;refine(bY bs (j:Int) _ WQ WQ (TA.below ((bj _ _).drew)).post.bld.src).mono ?_;rintro e wB ⟨vi,rfl,PR,Xk,S1,S3⟩;have TB:=(TA.below ((bj _ _).drew)).read S1 S3;refine hK.o _ _ ⟨TB.post.bld.c0,(TB.cx 3 lX).1⟩ ?_;clear hK K S1 S3 ah ca a5 TA;refine lR 8 fun K hK=>?_;go_simp;have TC:=TB.below (ae wB (Sx #[Bm Sj vi] 3));refine hK.o _ _ ⟨TC.post.bld.c0,(TC.cx 3 lX).1⟩ ?_;clear hK K;refine aP Yp lX ?_;simp only[cQ,cL];obtain⟨x5,f5⟩:=TC.cx 5 lX;go_wp2;have hJ:=HJ;unfold kG at hJ;go_meet;refine⟨_,_,_,_,_,_,_,.mirror j ⟨ai,hj⟩ c ⟨aj,ak⟩ [vi] (.inr ⟨vi,PR,WQ,rfl⟩),TC.stale (b9 wB _) (by have:=TB.post.bld.Gj;omega) (fun q=>by have:=(TB.post.bld.xlt _ q).2;omega) (fun q=>by have:=(TB.post.bld.nLt q).2;omega) (fun q=>by have:=(TB.post.bld.vLt q).2;omega)⟩
 have XV:(v3==0)=VN:=by simpa using hv30
 go_wp2;have hJ:=HJ;unfold kG at hJ;go_meet;exact⟨_,_,_,_,_,_,_,.mirror j ⟨ai,hj⟩ c ⟨aj,ak⟩ [] (.inl lX),TA⟩
def wU:Nn 4:=by
 intro X bs bb nv vv g next w name a9 am ao n hn1 hn2 L W T0 J K' Q0 HJ hK;conv=>arg 2;whnf
 have c0:=T0.post.bld.c0;go_wp2_with fail;refine(bY bs 2 _ WQ WQ T0.post.bld.src).mono ?_;rintro e w2 ⟨kv,rfl,aq,hk2,hs2,aa⟩;have T1:=T0.read hs2 aa;clear aa hs2 c0;obtain⟨kk,C1⟩:∃u:Nat,kv+3=(u:Int):=⟨(kv+3).toNat,WQ⟩;obtain rfl:kv=(kk:Int)-3:=by omega
 have hk3:3<=kk:=by omega
 have hk4:kk<=4:=by omega
 clear C1;have e1:3+((kk:Int)-3)=kk:=by omega
 have b1:0<=n*((kk:Int)-1)/\n*((kk:Int)-1)<=9:=by rcases(show n=1\/n=2\/n=3 by omega)with rfl|rfl|rfl<;>omega
 have b2:=b1.1;have b3:=b1.2;have q1:0<=(15+g.Gd)/g.Gd:=lz WQ WQ;have q2:(15+g.Gd)/g.Gd<=31:=Int.le_trans (mS _ WQ) WQ;obtain⟨x1,f1⟩:=T1.cx 1 lX;go_upto_block 3 with(fail)
 have T2:vq X bs bb nv vv g next w (L+1+1+1) L (L+1) (L+1+1) (FG VX 0 0) (FG VX 0 0) (FG VX 0 0) (FG VX 0 0) [] [] [] [] (n*((kk:Int)-1)) 4 1 es 0 (w2.setCell (XM L 1) (Bm Sj (n*((kk:Int)-1)))):=T1.put 1 _ (fun _=>rfl);generalize af:AF w2 _ _=W2 at *;clear af x1 f1 b1 T1;go_wp2;go_loopw[14] (fun i wr=>∃(j:Nat) (ft fx av:zY),j<=kk/\i=Bm Sj j/\vq X bs bb nv vv g next w (L+1+1+1) L (L+1) (L+1+1) ft fx av (FG VX 0 0) (aI name j) (DE j (n+(15+g.Gd)/g.Gd)) (gB (aI name j)) [] (n*((kk:Int)-1)) 4 1 es 0 wr) (fun i _=>kk-(intOf i).toNat)
 exact⟨0,_,_,_,WQ,rfl,T2⟩;obtain⟨j,ft,fx,av,hj,rfl,T3⟩:=hrel;by_cases hlt:j<kk
 ·have z1:(0:Int)<=(j:Int):=by omega
  have z2:(j:Int)<4:=by omega
  have a7:(wr.alloc (Sx #[By ⟨#[48]⟩,By ⟨#[49]⟩,By ⟨#[50]⟩,By ⟨#[51]⟩] 9)).cell? (wr.1.size,j)=Vv (By (digit j)):=by
   refine aD lX ?_;rcases(show j=0\/j=1\/j=2\/j=3 by omega)with rfl|rfl|rfl|rfl<;>rfl
  have QH:(digit j).size=1:=rfl;have au:¬(9223372036854775807<name.size+4):=by omega
  have a8:¬g.Gd=0:=by omega
  have ag:(g.Gd==0)=VN:=by simpa using a8
  have ah:IntKind.i64.wrap (15+g.Gd)=15+g.Gd:=dy _ WQ;have ai:(15+g.Gd).tdiv g.Gd=(15+g.Gd)/g.Gd:=CC WQ;have aj:IntKind.i64.wrap ((15+g.Gd)/g.Gd)=(15+g.Gd)/g.Gd:=dy _ WQ;have ak:IntKind.i64.wrap (n+(15+g.Gd)/g.Gd)=n+(15+g.Gd)/g.Gd:=dy _ WQ;have aw:¬(9223372036854775807<name.size+4+1):=by omega
  go_wp2;refine gW (fun _=>True) 14 [] Yp trivial (fun a5=>?_);refine fS 0 a5 ?_;refine fS 1 a5 ?_;refine fS 2 a5 ?_;refine fS 4 a5 ?_;refine fS 8 a5 ?_;refine fS 9 a5 ?_;refine fS 10 a5 ?_;refine fS 11 a5 ?_;refine fS 12 a5 ?_;refine fS 13 a5 ?_;(refine lR 3 fun K hK=>?_;go_simp;refine hK.o _ _ trivial ?_;clear hK K);(refine lR 5 fun K hK=>?_;go_simp;refine hK.o _ _ trivial ?_;clear hK K);(refine lR 6 fun K hK=>?_;go_simp;refine hK.o _ _ trivial ?_;clear hK K);(refine lR 7 fun K hK=>?_;go_simp;refine hK.o _ _ trivial ?_;clear hK K)
  refine aP Yp lX ?_;simp only[cQ,cL];clear ah ai aj ak a7;have T4:=(T3.below (ae wr (Sx #[By ⟨#[48]⟩,By ⟨#[49]⟩,By ⟨#[50]⟩,By ⟨#[51]⟩] 9))).below ((bj _ _).drew);go_wp2_with fail;refine(jM (fun _=>rfl) T4.loc T4.hB TdT ZY TdB).mono ?_;rintro e w3 ⟨rfl,aE7,aE8,SY,A1⟩;have T5:=T4.add A1;clear A1;exact TbO
 obtain rfl:j=kk:=by omega
 have c0:=T3.post.bld.c0;go_wp2_with fail;refine(bY bs 2 _ WQ WQ T3.post.bld.src).mono ?_;rintro e w3 ⟨v3,rfl,ay,az,hs3,ab⟩;have T4:=T3.read hs3 ab;clear ab hs3 c0;by_cases hv0:v3=0
 ·subst hv0;obtain⟨x4,f4⟩:=T4.cx 4 lX;go_wp2;have hJ:=HJ;unfold kG at hJ;go_meet;exact⟨_,_,_,_,_,_,_,.parity j ⟨hk3,hk4⟩ g.Gd (.inr lX),T4.put 4 _ (fun _=>rfl)⟩
 have XV:(v3==0)=VN:=by simpa using hv0
 go_wp2;have hJ:=HJ;unfold kG at hJ;go_meet;exact⟨_,_,_,_,_,_,_,.parity j ⟨hk3,hk4⟩ 1 (.inl lX),T4⟩
def AV:Nn 5:=by
 intro X bs bb nv vv g next w name a5 af ag n hn1 hn2 L W T0 J K' Q0 HJ hK;conv=>arg 2;whnf
 have c0:=T0.post.bld.c0;go_wp2_with fail;refine(bO bs 1 3 _ WQ WQ WQ T0.post.bld.src).mono ?_;rintro e w2 ⟨l,rfl,hl1,aa,hs2,a7⟩;have T1:=T0.read hs2 a7;clear a7 hs2 c0;go_wp2_with fail;refine(jM (fun _=>rfl) T1.loc T1.hB XN XN XN).mono ?_;rintro e w3 ⟨rfl,aE7,aE8,SY,A1⟩;have T2:=T1.add A1;clear A1;go_wp2_with fail;refine(jM (fun _=>rfl) T2.loc T2.hB XN XN XN).mono ?_;rintro e w4 ⟨rfl,Xl,Xm,ah,A2⟩;have T3:=T2.add A2;clear A2;have c0:=T3.post.bld.c0;go_wp2_with fail;refine(bO bs 1 8 _ WQ WQ WQ T3.post.bld.src).mono ?_;rintro e w5 ⟨c,rfl,ab,ae,a8,a9⟩;have T4:=T3.read a8 a9;clear a9 a8 c0;obtain⟨x4,f4⟩:=T4.cx 4 lX;go_wp2;have hJ:=HJ;unfold kG at hJ;go_meet;exact⟨_,_,_,_,_,_,_,.pool l c ⟨hl1,aa⟩ ⟨ab,ae⟩,T4.put 4 _ (fun _=>rfl)⟩
def yF:Nn 7:=by
 intro X bs bb nv vv g next w name a8 aj ak n hn1 hn2 L W T0 J K' Q0 HJ hK;conv=>arg 2;whnf
 go_wp2_with fail;refine(jM (fun _=>rfl) T0.loc T0.hB XN XN XN).mono ?_;rintro e w3 ⟨rfl,aE7,aE8,SY,A1⟩;have T1:=T0.add A1;clear A1;have c0:=T1.post.bld.c0;go_wp2_with fail;refine(bO bs 1 2 _ WQ WQ WQ T1.post.bld.src).mono ?_;rintro e w2 ⟨l,rfl,hl1,af,hs2,a7⟩;have T2:=T1.read hs2 a7;clear a7 hs2 c0;go_wp2_with fail;refine(jM (fun _=>rfl) T2.loc T2.hB XN XN XN).mono ?_;rintro e w4 ⟨rfl,Xl,Xm,am,A2⟩;have T3:=T2.add A2;clear A2;go_wp2_with fail;refine(jM (fun _=>rfl) T3.loc T3.hB XN XN XN).mono ?_;rintro e w5 ⟨rfl,ao,aq,au,A3⟩;have T4:=T3.add A3;clear A3;have c0:=T4.post.bld.c0;have av:=T4.post.bld.Gj;go_wp2;refine gW (fun w'=>w'.cell? bb=Vv (SL (Vv bs))) 11 [0,1,2,5,6,7] Yp c0 (fun a5=>?_);refine fz 0 ?_;refine fz 1 ?_;refine fz 2 ?_;refine fz 5 ?_;refine fz 6 ?_;refine fz 7 ?_;refine fS 3 a5 ?_;refine fS 8 a5 ?_;refine lR 4 fun K hK=>?_;go_simp;refine(bO bs 1 2 _ WQ WQ WQ (T4.below ((bj _ _).drew)).post.bld.src).mono ?_;rintro e w6 ⟨m,rfl,ag,a7,a9,aa⟩;have T5:=(T4.below ((bj _ _).drew)).read a9 aa;refine hK.o _ _ T5.post.bld.c0 ?_;clear hK K a9 aa a5;have a5:=T5.post.bld.c0;refine fS 10 a5 ?_;refine lR 9 fun K hK=>?_;go_simp;refine(bO bs 1 4 _ WQ WQ WQ T5.post.bld.src).mono ?_;rintro e w7 ⟨c,rfl,ah,ai,ab,ae⟩;have T6:=T5.read ab ae;refine hK.o _ _ T6.post.bld.c0 ?_;clear hK K ab ae c0 a5;refine aP Yp lX ?_;simp only[cQ,cL];obtain⟨x4,f4⟩:=T6.cx 4 lX;obtain⟨x9,f9⟩:=T6.cx 9 lX;go_wp2;have hJ:=HJ;unfold kG at hJ;go_meet;exact⟨_,_,_,_,_,_,_,.cache l m c ⟨hl1,af⟩ ⟨ag,a7⟩ ⟨ah,ai⟩,(T6.put 9 _ (fun _=>rfl)).put 4 _ (fun _=>rfl)⟩
def Tbs(h:gt:=by
 go_wp2;go_end0
 have hv:=Mp.o;subst hv;have hb:=aG3.o;subst hb;refine⟨rfl,.inr ⟨n,names,lengths,x,ps,vl,ro,tl,kk,j,DM,next',_,hn1,hn2,HR.o,?_,hT,HT2.o,WQ,fun q=>absurd lX q,Xq.o,R⟩⟩;have:=HH.o;rw[HR1.o,cI]at this;exact this):=h
def TdF(h:gt:=by assumption):=h
end Go.Proofs.YtfmbphdjcghfnaaGreatDoor
