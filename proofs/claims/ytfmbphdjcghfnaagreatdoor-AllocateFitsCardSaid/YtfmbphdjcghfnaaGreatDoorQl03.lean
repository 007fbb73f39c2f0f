/- Lemmas (the rest of Qj03). -/
import Derived.Test.YtfmbphdjcghfnaaGreatDoorQk03
set_option maxRecDepth 100000
set_option maxHeartbeats 32000000
set_option linter.all false
open List renaming length→Wq,range→FF,replicate→DE,mem_append→AS,getElem?_eq_some_iff→AT,singleton_inj→IF
open Go.Value renaming string→By,slice→FG,int→Bm
open Go.World renaming cell?→AN,frozen?→BT,setCell→AF,alloc→AI
open Go.IntKind renaming i64→Sj,u64→U8
open Go.Obj renaming cells→Sx
open Go.Value renaming pointer→SL,bool→Ft,agg→Tk,tuple→Vj
open Go.Ending renaming returned→S6
open Option renaming some→Vv,none→VX
open Bool renaming false→VN,true→VR
open Decidable renaming decide→V7
open Go renaming undef→uu
namespace Go.Proofs.YtfmbphdjcghfnaaGreatDoor
variable{gt:Prop}
open Go.Proofs.Tryz
open Go.RowKit
variable {α:Type}{sz B k:Nat}{t:TypeId}{w w':H7}{v:zY}{lengths:PI}
variable{RK RW Rr SO Se Sf St TO To UP W0 Wg Wr ZD ZS a5 a7 a8 a9 aE aL ab ag am ao av b0 b1 b2 b3 b4 b5 b8 bL bV ba be bf bl bm bp bu c0 c1 c10 c2 c5 c6 c7 c8 c9 ca cc ce cf ci cl cn co cp da dj dq eS fa fb ff fs ft fx gE gn iS im ka kc ke lE lP mT me mu mw mx nF o4 oE oR oS pe ph pr pt qe qk qt qv rl rm sE sa sd ta tb te tf ti tr tt tw v' vf vj vm vv we wg wv yW yk zd zp:zY}{F X ok':LN}{names:QN}{on s:H6}{Q:N2}{Ll Ln Lx M b cap j vb vc:Nat}{kind n:Int}{Ga:wy aR}{tl vs:wy ay}{xs:zY->Array zY}
variable {w a:H7}{B:Nat}{v:zY}{l:PI}
def tH{ok:LN}:∀(l:PI) (cs:RH),Flat cO 1 ok w cs l->cs=l.map (Bm Sj)
 |[],_,h=>h
 |x :: l,_,⟨u,r,e,h1,h2,h3,h4⟩=>by
  have:=tH l r h4;rw[e,this,show u=[Bm Sj x] from h2];rfl
def rU{ok:LN}:∀l:PI,Flat cO 1 ok w (l.map (Bm Sj)) l
 |[]=>rfl
 |x :: l=>⟨[Bm Sj x],l.map (Bm Sj),rfl,rfl,rfl,Tdj,rU l⟩
def eG.ownS(h:eG w B v l)(ok:LN):bF cO 1 3 B ok w v l:=⟨_,h,rU l⟩
def bF.ownI{ok:LN}(h:bF cO 1 3 B ok w v l):eG w B v l:=by
 obtain⟨cs,h1,h2⟩:=h;rw[tH l cs h2]at h1;exact h1
structure Str(w0 w:H7):Prop where
 os:w.os=w0.os
 tape:w.tape=w0.tape
 output:w.output=w0.output
def Str.refl(w:H7):Str w w:=⟨rfl,rfl,rfl⟩
def Str.trans{b c:H7}(h:Str a b)(k:Str b c):Str a c:=⟨k.os.trans h.os,k.tape.trans h.tape,k.output.trans h.output⟩
def cR.str{b:H7}(h:cR F a b):Str a b:=⟨h.os,h.tape,h.output⟩
def ow{b:H7}(h:Below B a b):Str a b:=⟨h.os,h.tape,h.output⟩
def nQ{b:H7}{row:Option Nat}(h:a.grownBy b row):Str a b:=⟨h.os,h.tape,h.output⟩
def pvT:H6:=⟨#[112,118]⟩
def vgT:H6:=⟨#[118,103]⟩
def BQ:H6:=⟨#[111,108,100]⟩
structure rH(k:Nat)(D:az):Prop where
 name:D.name=pvT++digit k
 id:D.id=k+1
 first:8<=D.first/\D.first<=16
 ext:D.Gc∈([0,4,12,30,60]:PI)
 tags:List.Sublist D.tags iQ
def okD(bb:Nat)(dv nv:zY):Nat->Prop:=fun b=>bb<b/\dv.ownBlock≠Vv b/\nv.ownBlock≠Vv b
structure vy(bs bb:Nat)(id seq ext:Int)(tags:QN)(w0:H7)(tv dv nv:zY)(Gb:wy az)(next:PI)(w:H7):Prop where
 src:Src w bs
 lt:bs<bb
 blk:w.heap[bb]?=Vv (Sx #[SL (Vv bs),By vgT,Bm U8 id,Bm Sj seq,Bm Sj ext,Bm Sj 0,tv,dv,FG VX 0 0,FG VX 0 0,nv] 63 (0,0))
 rt:ck aF 1 (okD bb dv nv) w [tv] tags
 ownD:bF aO 7 69 (bb+1) (okD bb dv nv) w dv Gb
 ownN:eG w (bb+1) nv next
 ne:∀k,dv.ownBlock=Vv k->nv.ownBlock≠Vv k
 old:∀k,k<bb->k≠bs->w.heap[k]?=w0.heap[k]?
 str:Str w0 w
section
variable {bs bb:Nat}{id seq ext:Int}{tags:QN}{w0 w w' w2:H7}{tv dv nv:zY}{Gb:wy az}{next:PI}
variable {k gb:Nat}{u:RH}
theorem vy.Gj(h:vy bs bb id seq ext tags w0 tv dv nv Gb next w):bb<w.1.size:=aq h.blk
theorem vy.dLt(h:vy bs bb id seq ext tags w0 tv dv nv Gb next w)(e:dv.ownBlock=Vv k):bb<k/\k<w.1.size:=by
 have:=h.ownD.ge0 e;omega
theorem vy.nLt(h:vy bs bb id seq ext tags w0 tv dv nv Gb next w)(e:nv.ownBlock=Vv k):bb<k/\k<w.1.size:=by
 have:=h.ownN.lt k e;omega
theorem vy.okNew(h:vy bs bb id seq ext tags w0 tv dv nv Gb next w)(hk:w.1.size<=k):okD bb dv nv k:=⟨by have:=h.Gj;omega,fun e=>by have:=h.dLt e;omega,fun e=>by have:=h.nLt e;omega⟩
def TeU(h:gt:=by have:=(mb k e).1;omega):=h
theorem vy.keep(h:vy bs bb id seq ext tags w0 tv dv nv Gb next w)(hst:Str w w')(hs:Src w' bs)(hz:w.1.size<=w'.1.size)(hk:∀k,k<w.1.size->k≠bs->w'.1[k]?=w.1[k]?):vy bs bb id seq ext tags w0 tv dv nv Gb next w':=by
 have hl:=h.lt;have hb:=h.Gj;have hm:Mv (okD bb dv nv) (okD bb dv nv) w w':=⟨hz,fun b hb ho=>⟨ho,hk b hb TdJ⟩⟩;refine⟨hs,hl,(hk bb hb WQ).trans h.blk,(ck.moves aF.moves).mv hm h.rt,?_,aC h.ownN fun k e=>hk k (h.nLt e).2 (by have:=(h.nLt e).1;omega),h.ne,fun k h1 h2=>(hk k WQ h2).trans (h.old k h1 h2),h.str.trans hst⟩;have mb:=fun k e=>h.dLt (k:=k) e;obtain⟨cs,ho,hf⟩:=h.ownD;exact⟨cs,aC ho fun k e=>hk k (mb k e).2 TeU,Flat.moves aO.moves hm _ _ hf⟩
theorem vy.read(h:vy bs bb id seq ext tags w0 tv dv nv Gb next w)(hs:Src w' bs)(hm:cR (fun i=>i=bs) w w'):vy bs bb id seq ext tags w0 tv dv nv Gb next w':=h.keep hm.str hs hm.size fun k hk hn=>hm.block k hk hn
theorem vy.below(h:vy bs bb id seq ext tags w0 tv dv nv Gb next w)(hb:Below w.1.size w w'):vy bs bb id seq ext tags w0 tv dv nv Gb next w' :=
 h.keep (ow hb) (h.src.keep fun i hi=>hb.block i TeO) hb.size fun k hk _=>hb.block k hk
def TeL(h:gt:=by injection e with e;exact e.symm):=h
theorem vy.pushD{D:az}(h:vy bs bb id seq ext tags w0 tv dv nv Gb next w)
  (hp:jN aO 7 69 (bb+1) (fun b=>okD bb dv nv b/\b<w.1.size) w dv Gb D u gb cap w2) :
  vy bs bb id seq ext tags w0 tv (FG (Vv gb) (Gb.length+1) cap) nv (Gb++[D]) next (w2.setCell (XM bb 7) (FG (Vv gb) (Gb.length+1) cap))/\w2.1[bb]?=w.1[bb]?:=by
 have hl:=h.lt;have hb:=h.Gj;have hz:=hp.grown.size;have kw:∀k,k<w.1.size->dv.ownBlock≠Vv k->w2.1[k]?=w.1[k]?:=fun k h1 h2=>hp.grown.block k h1 fun e=>h2 e.symm;have pC:w2.1[bb]?=w.1[bb]?:=kw bb hb fun e=>by have:=h.dLt e;omega
 have kk:∀k,k≠bb->(w2.setCell (XM bb 7) (FG (Vv gb) (Gb.length+1) cap)).1[k]?=w2.1[k]?:=fun k e=>bw _ _ _ _ e;have a7:(w2.setCell (XM bb 7) (FG (Vv gb) (Gb.length+1) cap)).1.size=w2.1.size:=by simp[AF]
 have hg:=hp.own.ge0 (k:=gb) lX;have a5:∀b,okD bb dv nv b->b<w.1.size->b≠gb:=fun b h1 h2 e=>by
  subst e;rcases hp.at' with q|q
  ·exact h1.2.1 q
  omega
 have gw:∀b,okD bb dv nv b->b<w.1.size->okD bb (FG (Vv gb) (Gb.length+1) cap) nv b:=fun b h1 h2=>⟨h1.1,fun e=>a5 b h1 h2 TeL,h1.2.2⟩
 have old:∀k,k<bb->(w2.setCell (XM bb 7) (FG (Vv gb) (Gb.length+1) cap)).1[k]?=w.1[k]?:=fun k hk=>(kk k WQ).trans (kw k WQ fun e=>by have:=h.dLt e;omega);refine⟨⟨h.src.keep fun i hi=>old i WQ,hl,?_,?_,?_,?_,?_,fun k h1 h2=>(old k h1).trans (h.old k h1 h2),(h.str.trans (nQ hp.grown)).trans ⟨rfl,rfl,rfl⟩⟩,pC⟩
 ·exact block_setCell (i:=7) _ (pC.trans h.blk)
 ·exact(ck.moves aF.moves).mv ⟨WQ,fun b h1 h2=>⟨gw b h2 h1,(kk b (by have:=h2.1;omega)).trans (kw b h1 h2.2.1)⟩⟩ h.rt
 ·obtain⟨cs,ho,hf⟩:=hp.own;exact⟨cs,aC ho fun k e=>kk k Teh,Flat.moves aO.moves ⟨WQ,fun b _ h2=>⟨gw b h2.1 h2.2,kk b (by have:=h2.1.1;omega)⟩⟩ _ _ hf⟩
 ·exact aC h.ownN fun k e=>(kk k (by have:=(h.nLt e).1;omega)).trans (kw k (h.nLt e).2 fun e'=>h.ne k e' e)
 intro k e e';obtain rfl:gb=k:=by injection e
 rcases hp.at' with q|q
 ·exact h.ne gb q e'
 have:=(h.nLt e').2;omega
theorem vy.pushN{x:Int}(h:vy bs bb id seq ext tags w0 tv dv nv Gb next w)
  (hp:jN cO 1 3 (bb+1) (fun _=>False) w nv next x u gb cap w2) :
  vy bs bb id seq ext tags w0 tv dv (FG (Vv gb) (next.length+1) cap) Gb (next++[x]) (w2.setCell (XM bb 10) (FG (Vv gb) (next.length+1) cap))/\w2.1[bb]?=w.1[bb]?:=by
 have hl:=h.lt;have hb:=h.Gj;have hz:=hp.grown.size;have kw:∀k,k<w.1.size->nv.ownBlock≠Vv k->w2.1[k]?=w.1[k]?:=fun k h1 h2=>hp.grown.block k h1 fun e=>h2 e.symm;have pC:w2.1[bb]?=w.1[bb]?:=kw bb hb fun e=>by have:=h.nLt e;omega
 have kk:∀k,k≠bb->(w2.setCell (XM bb 10) (FG (Vv gb) (next.length+1) cap)).1[k]?=w2.1[k]?:=fun k e=>bw _ _ _ _ e;have a7:(w2.setCell (XM bb 10) (FG (Vv gb) (next.length+1) cap)).1.size=w2.1.size:=by simp[AF]
 have hg:=hp.own.ge0 (k:=gb) lX;have a5:∀b,nv.ownBlock≠Vv b->b<w.1.size->b≠gb:=fun b h1 h2 e=>by
  subst e;rcases hp.at' with q|q
  ·exact h1 q
  omega
 have gw:∀b,okD bb dv nv b->b<w.1.size->okD bb dv (FG (Vv gb) (next.length+1) cap) b:=fun b h1 h2=>⟨h1.1,h1.2.1,fun e=>a5 b h1.2.2 h2 TeL⟩
 have old:∀k,k<bb->(w2.setCell (XM bb 10) (FG (Vv gb) (next.length+1) cap)).1[k]?=w.1[k]?:=fun k hk=>(kk k WQ).trans (kw k WQ fun e=>by have:=h.nLt e;omega);have hm:Mv (okD bb dv nv) (okD bb dv (FG (Vv gb) (next.length+1) cap)) w (w2.setCell (XM bb 10) (FG (Vv gb) (next.length+1) cap)):=⟨WQ,fun b h1 h2=>⟨gw b h2 h1,(kk b (by have:=h2.1;omega)).trans (kw b h1 h2.2.2)⟩⟩;refine⟨⟨h.src.keep fun i hi=>old i WQ,hl,?_,(ck.moves aF.moves).mv hm h.rt,?_,?_,?_,fun k h1 h2=>(old k h1).trans (h.old k h1 h2),(h.str.trans (nQ hp.grown)).trans ⟨rfl,rfl,rfl⟩⟩,pC⟩
 ·exact block_setCell (i:=10) _ (pC.trans h.blk)
 ·have mb:=fun k e=>h.dLt (k:=k) e
  obtain⟨cs,ho,hf⟩:=h.ownD;exact⟨cs,aC ho fun k e=>(kk k TeU).trans (kw k (mb k e).2 (h.ne k e)),Flat.moves aO.moves hm _ _ hf⟩
 ·have ho:=hp.own.ownI;exact aC ho fun k e=>kk k (by have:=fh ho k e;omega)
 intro k e e';obtain rfl:gb=k:=by injection e'
 rcases hp.at' with q|q
 ·exact h.ne gb e q
 have:=(h.dLt e).2;omega
end
variable {bs bb:Nat}{id seq:Int}{tags:QN}{w0 w:H7}{tv dv nv:zY}{Gb:wy az}{g:af}
noncomputable def nA(n:Nat):Code:=((Tryz.f5.body.bind (kX n)).getD .skip)
def Dp:(prog.info? 69).map (fun i=>(i.zero,i.size,i.bytes))=Vv (Vv (Tk Tal),7,72):=by kernel_rfl
def u0(x0:az)(x1:IH)(x2:Nat):Tab #[By x0.name,Bm U8 x0.id,Bm Sj x0.first,Bm Sj x0.Gc,Ft x0.closed,Ft x0.missing,FG x1 (Wq x0.tags) x2]:=⟨⟩
def Tev(h:gt:=by show ¬k=bs;omega):=h
def Tbm(h:gt:=by
 clear hF h0;simp only[over,cq,Act.put];go_simp;refine(bY bs 8 w' WQ WQ hC.1).mono ?_;rintro e w3 ⟨v,rfl,hv1,hv2,hs,hm⟩;refine hK1.o (Bm Sj v) w3 ⟨hs,hC.2.trans hm fun _ h=>.inl h⟩ ⟨hm.size,fun k h1 h2=>hm.block k h2 Tev⟩ (⟨v,aw lX⟩) _ ?_;simp only[over,cq,aS]):=h
def TeV(h:gt:=by have:=hC.2.size;omega):=h
theorem yY{ext:Int}{next:PI}(D0:vy bs bb id seq ext tags w0 tv dv nv Gb next w)(hM:Gb.length=M)(dK:M<=3)
  {di dm ds dw dx dz dA dB dC dD dE dF dG bM bO bP bQ bR bS bT bU bW bX bZ c4 cd cg aa af ah ai aj ak au ay aA aB aC aD aG aH aI aJ aK aM aN aP aQ aR aT aU aV aW aX aY aZ b9 bd bg bh bi bw bz bC bD bE bG bH bI bJ:zY} {K:Act->H7->Prop}  (cp:∀c (a:Act) (t t':Array zY) w,Q (.panic c) { a with tmps:=t } w->Q (.panic c) { a with tmps:=t' } w)
  (HK:Hid (∀(Xs:zY) (D:az) (w':H7) (u41 u42 u43 u44 u45 u46 u47 u48 u49 u50 u51 u52 u53 u54 u55 u56 u57 u58 u59 u60 u61 u62 u63 u64 u65 u66 u67 u68 u69 u70 u71 u72 u73 u74 u75:zY),rH M D->vy bs bb id seq ext tags w0 tv Xs nv (Gb++[D]) next w'->K ⟨#[SL (Vv bs),c1,c2,SL (Vv bb),Bm Sj 8,c5,Bm Sj (M:Int),c7,c8,c9,c10,ZS,ao,Sf,TO,RK,RW,Rr,SO,Se,St,W0,ZD,Wg,Wr,To,UP,aE,ab,eS,da,dj,dq,fs,gE,ff,fb,fa,mT,me,ph,u41,u42,u43,u44,u45,u46,u47,u48,u49,u50,u51,u52,u53,u54,u55,u56,u57,u58,u59,u60,u61,u62,u63,u64,u65,u66,u67,u68,u69,u70,u71,u72,u73,u74,u75,bM,bO,bP,bQ,bR,bS,bT,bU,bV,bW,bX,bZ,c4,c6,ca,cc,cd,ce,cf,cg,ci,cl,cn,co,lE,lP,gn,iS,im,ka,kc,ke,pt,ta,tb,te,tf,ti,tr,tt,tw,vf,vj,vm,we,wg,wv,yW,a7,a8,a9,aa,af,ag,ah,ai,aj,ak,am,au,av,ay,aA,aB,aC,aD,aG,aH,aI,aJ,aK,aL,aM,aN,aP,aQ,aR,aT,aU,aV,aW,aX,aY,aZ,b8,b9,ba,bd,be,bf,bg,bh,bi,bl,bm,bp,bu,bw,bz,bC,bD,bE,bG,bH,bI,bJ],[]⟩ w')) :
  Code.wp prog (nA 8) (Exit.then K Q) ⟨#[SL (Vv bs),c1,c2,SL (Vv bb),Bm Sj 8,c5,Bm Sj (M:Int),c7,c8,c9,c10,ZS,ao,Sf,TO,RK,RW,Rr,SO,Se,St,W0,ZD,Wg,Wr,To,UP,aE,ab,eS,da,dj,dq,fs,gE,ff,fb,fa,mT,me,ph,qe,qk,mu,mw,mx,nF,pr,o4,oE,oR,oS,pe,qt,qv,rl,rm,sE,sa,sd,yk,zd,zp,di,dm,ds,dw,dx,dz,dA,dB,dC,dD,dE,dF,dG,bM,bO,bP,bQ,bR,bS,bT,bU,bV,bW,bX,bZ,c4,c6,ca,cc,cd,ce,cf,cg,ci,cl,cn,co,lE,lP,gn,iS,im,ka,kc,ke,pt,ta,tb,te,tf,ti,tr,tt,tw,vf,vj,vm,we,wg,wv,yW,a7,a8,a9,aa,af,ag,ah,ai,aj,ak,am,au,av,ay,aA,aB,aC,aD,aG,aH,aI,aJ,aK,aL,aM,aN,aP,aQ,aR,aT,aU,aV,aW,aX,aY,aZ,b8,b9,ba,bd,be,bf,bg,bh,bi,bl,bm,bp,bu,bw,bz,bC,bD,bE,bG,bH,bI,bJ],[]⟩ w:=by
 have hQ:∀c (a:Act) (d:Tmp) (v:zY) w,Q (.panic c) (a.put (Vv d) v) w->Q (.panic c) a w:=fun c a d v w h=>cp c a _ _ w h;conv=>arg 2;whnf
 have hlt:=D0.lt;have cX:=D0.Gj;have dH:IntKind.i64.wrap ((M:Int)+1)=(M:Int)+1:=dy _ WQ;have dI:IntKind.u64.wrap ((M:Int)+1)=(M:Int)+1:=IntWalk.u64_in _ WQ;obtain⟨dp,ir,Xt,hd1,hd2⟩:∃p c,dv=FG p M c/\M<=c/\c<=9223372036854775807:=by
  obtain⟨p,c,e,h1,h2,_⟩:=D0.ownD.rd aO.moves YR (ok':=fun _=>True) (fun _ _ _=>trivial) (fun _ _=>trivial);rw[hM]at e h1;exact⟨p,c,by injection e,h1,h2⟩
 subst Xt;have z1:(0:Int)<=(M:Int):=by omega
 have z2:(M:Int)<4:=by omega
 have bK:=cr D0.blk 7 _ lX;refine gW (fun w'=>w'.cell? (XM bb 7)=Vv (FG dp M ir)) 31 [0,1,2,3,4,7,11,12,13,14,15,18,21,24,27] Yp bK (fun a5=>?_);refine gC hQ 0 ?_;refine gC hQ 1 ?_;refine gC hQ 2 ?_;refine gC hQ 3 ?_;refine gC hQ 4 ?_;refine gC hQ 7 ?_;refine gC hQ 11 ?_;refine gC hQ 12 ?_;refine gC hQ 13 ?_;refine gC hQ 14 ?_;refine gC hQ 15 ?_;refine gC hQ 18 ?_;refine gC hQ 21 ?_;refine gC hQ 24 ?_;refine gC hQ 27 ?_;refine cH hQ 5 a5 ?_;have D1:=D0.below ((bj _ _).drew);have mA:w.drew.1.size=w.1.size:=rfl;have Xu:w.drew.cell? (XM bb 7)=Vv (FG dp M ir):=bK;generalize dJ:w.drew=wd at *;clear dJ bK a5 dH dI D0;have pB:=D1.Gj;refine fE (idx:=[(6,47),(8,49),(9,50),(10,51),(16,57),(17,58),(19,60),(20,61),(22,63),(23,64),(25,66),(26,67),(28,69),(29,70),(30,71)]) (fun i=>[i])
  (fun i vs w'=>match i with
   |6=>∃b,vs 6=FG (Vv ⟨b,0,VX⟩) 4 4/\dS wd.1.size 9 [By ⟨#[48]⟩,By ⟨#[49]⟩,By ⟨#[50]⟩,By ⟨#[51]⟩] b w'
   |8=>∃b,vs 8=SL (Vv ⟨b,M,VX⟩)/\dS wd.1.size 9 [By ⟨#[48]⟩,By ⟨#[49]⟩,By ⟨#[50]⟩,By ⟨#[51]⟩] b w'
   |9=>vs 9=By (digit M)
   |10=>vs 10=By (pvT++digit M)
   |16=>∃v:Int,0<=v/\v<=8/\vs 16=Bm Sj v
   |17=>∃v:Int,8<=v/\v<=16/\vs 17=Bm Sj v
   |19=>∃b,vs 19=FG (Vv ⟨b,0,VX⟩) 5 5/\dS wd.1.size 3 [Bm Sj 0,Bm Sj 4,Bm Sj 12,Bm Sj 30,Bm Sj 60] b w'
   |20=>∃v:Int,v∈([0,4,12,30,60]:PI)/\vs 20=Bm Sj v
   |22=>∃v:Int,vs 22=Bm Sj v
   |23=>∃c:Bool,vs 23=Ft c
   |25=>∃v:Int,vs 25=Bm Sj v
   |26=>∃c:Bool,vs 26=Ft c
   |28=>∃tp tc tl,vs 28=FG tp (List.length tl) tc/\ck aF 1 (fun k=>wd.1.size<=k) w' [FG tp tl.length tc] tl/\List.Sublist tl iQ
   |29=>∃D tp tc,rH M D/\vs 29=Tk (u0 D tp tc)/\ck aF 1 (fun k=>wd.1.size<=k) w' [FG tp (Wq D.tags) tc] D.tags
   |30=>∃D tp tc b,rH M D/\vs 30=FG (Vv ⟨b,0,VX⟩) 1 1/\dS wd.1.size 69 [By D.name,Bm U8 D.id,Bm Sj D.first,Bm Sj D.Gc,Ft D.closed,Ft D.missing,FG tp (Wq D.tags) tc] b w'/\ck aF 1 (fun k=>wd.1.size<=k) w' [FG tp (Wq D.tags) tc] D.tags
   |_=>True)
  (fun _ w'=>Src w' bs/\cR (fun k=>k=bs) wd w') (fun _=>rS wd.1.size) Yp lX ?cs ?st (fun c t t' w h=>cp c ⟨t,[]⟩ t t' w h) ?c0 ?ob ?fin
 case c0=>exact⟨D1.src,cR.refl _ _⟩
 case cs=>exact fun d w' hC=>(hC.2.cell (p:=⟨bb,7,VX⟩) pB (by show ¬bb=bs;omega)).trans Xu
 case st =>
  intro p hp q _ _ vs us w1 w2 ha hF he;have C4:Mv (fun k=>wd.1.size<=k) (fun k=>wd.1.size<=k) w1 w2:=⟨he.1,fun b hb ho=>⟨ho,he.2 b ho hb⟩⟩;simp only[dr,cY,dg]at hp;rcases hp with rfl|rfl|rfl|rfl|rfl|rfl|rfl|rfl|rfl|rfl|rfl|rfl|rfl|rfl|rfl
  ·obtain⟨b,e,hb⟩:=hF;exact⟨b,(ha 6 (cG ..)).trans e,hb.ev he⟩
  ·obtain⟨b,e,hb⟩:=hF;exact⟨b,(ha 8 (cG ..)).trans e,hb.ev he⟩
  ·exact(ha 9 (cG ..)).trans hF
  ·exact(ha 10 (cG ..)).trans hF
  ·obtain⟨v,h1,h2,e⟩:=hF;exact⟨v,h1,h2,(ha 16 (cG ..)).trans e⟩
  ·obtain⟨v,h1,h2,e⟩:=hF;exact⟨v,h1,h2,(ha 17 (cG ..)).trans e⟩
  ·obtain⟨b,e,hb⟩:=hF;exact⟨b,(ha 19 (cG ..)).trans e,hb.ev he⟩
  ·obtain⟨v,h1,e⟩:=hF;exact⟨v,h1,(ha 20 (cG ..)).trans e⟩
  ·obtain⟨v,e⟩:=hF;exact⟨v,(ha 22 (cG ..)).trans e⟩
  ·obtain⟨v,e⟩:=hF;exact⟨v,(ha 23 (cG ..)).trans e⟩
  ·obtain⟨v,e⟩:=hF;exact⟨v,(ha 25 (cG ..)).trans e⟩
  ·obtain⟨v,e⟩:=hF;exact⟨v,(ha 26 (cG ..)).trans e⟩
  ·obtain⟨tp,tc,tl,e,h1,h2⟩:=hF;exact⟨tp,tc,tl,(ha 28 (cG ..)).trans e,(ck.moves aF.moves).mv C4 h1,h2⟩
  ·obtain⟨D,tp,tc,hd,e,h1⟩:=hF;exact⟨D,tp,tc,hd,(ha 29 (cG ..)).trans e,(ck.moves aF.moves).mv C4 h1⟩
  obtain⟨D,tp,tc,b,hd,e,hb,h1⟩:=hF;exact⟨D,tp,tc,b,hd,(ha 30 (cG ..)).trans e,hb.ev he,(ck.moves aF.moves).mv C4 h1⟩
 case ob =>
  refine kA.cons (deps:=[]) lX rfl Yp (fun vs d w' h0 hC hF K1 hK1=>?_) ?_
  ·clear hF h0;simp only[over,cq,Act.put];go_simp;refine hK1.o (FG (Vv w'.1.size) 4 4) _ ⟨hC.1.keep fun k hk=>cj _ _ _ TeV,hC.2.trans (G:=fun _=>False) (cR.of_below (ae _ _)) (fun _ f=>f.elim)⟩ (rS.alloc _ _ _) ⟨_,aw lX,dS.new hC.2.size⟩ _ ?_;simp only[over,cq,aS]
  refine kA.cons (deps:=[(6,47)]) lX rfl Yp (fun vs d w' h0 hC hF K1 hK1=>?_) ?_
  ·have f6:=(hF (6,47) XN).2;clear hF h0;simp only[over,cq,cF,aS]at f6 ⊢;obtain⟨b,e6,hb⟩:=f6;rw[e6];go_simp;refine hK1.o (SL (Vv (b,M))) _ hC (rS.refl _ _) (⟨b,aw lX,hb⟩) _ ?_;simp only[over,cq,cF,aS,e6]
  refine kA.cons (deps:=[(8,49)]) lX rfl Yp (fun vs d w' h0 hC hF K1 hK1=>?_) ?_
  ·have f8:=(hF (8,49) XN).2;clear hF h0;simp only[over,cq,cF,aS]at f8 ⊢;obtain⟨b,e8,hb⟩:=f8;rw[e8];have ct:w'.cell? (b,M)=Vv (By (digit M)):=by
    simp only[AN,hb.2];rcases(show M=0\/M=1\/M=2\/M=3 by omega)with rfl|rfl|rfl|rfl<;>rfl
   go_simp;refine hK1.o (By (digit M)) _ hC (rS.refl _ _) (aw lX) _ ?_;simp only[over,cq,cF,aS,e8]
  refine kA.cons (deps:=[(9,50)]) lX rfl Yp (fun vs d w' h0 hC hF K1 hK1=>?_) ?_
  ·have f9:=(hF (9,50) XN).2;clear hF h0;simp only[over,cq,cF,aS]at f9 ⊢;rw[f9];have QH:(digit M).size=1:=rfl;go_simp;refine hK1.o (By (pvT++digit M)) _ hC (rS.refl _ _) (aw lX) _ ?_;simp only[over,cq,cF,aS,f9,pvT]
  refine kA.cons (deps:=[]) lX rfl Yp (fun vs d w' h0 hC hF K1 hK1=>?_) ?_
  ·clear hF h0;simp only[over,cq,Act.put];go_simp;refine(bY bs 9 w' WQ WQ hC.1).mono ?_;rintro e w3 ⟨v,rfl,hv1,hv2,hs,hm⟩;refine hK1.o (Bm Sj v) w3 ⟨hs,hC.2.trans hm fun _ h=>.inl h⟩ ⟨hm.size,fun k h1 h2=>hm.block k h2 Tev⟩ (⟨v,hv1,WQ,aw lX⟩) _ ?_;simp only[over,cq,aS]
  refine kA.cons (deps:=[(16,57)]) lX rfl Yp (fun vs d w' h0 hC hF K1 hK1=>?_) ?_
  ·have cu:=(hF (16,57) XN).2;clear hF h0;simp only[over,cq,cF,aS]at cu ⊢;obtain⟨v,h1,h2,cv⟩:=cu;rw[cv];have dL:IntKind.i64.wrap (8+v)=8+v:=dy _ WQ;go_simp;refine hK1.o (Bm Sj (8+v)) _ hC (rS.refl _ _) (⟨8+v,WQ,WQ,aw lX⟩) _ ?_;simp only[over,cq,cF,aS,cv]
  refine kA.cons (deps:=[]) lX rfl Yp (fun vs d w' h0 hC hF K1 hK1=>?_) ?_
  ·clear hF h0;simp only[over,cq,Act.put];go_simp;refine hK1.o (FG (Vv w'.1.size) 5 5) _ ⟨hC.1.keep fun k hk=>cj _ _ _ TeV,hC.2.trans (G:=fun _=>False) (cR.of_below (ae _ _)) (fun _ f=>f.elim)⟩ (rS.alloc _ _ _) ⟨_,aw lX,dS.new hC.2.size⟩ _ ?_;simp only[over,cq,aS]
  refine kA.cons (deps:=[(19,60)]) lX rfl Yp (fun vs d w' h0 hC hF K1 hK1=>?_) ?_
  ·have cw:=(hF (19,60) XN).2;clear hF h0;simp only[over,cq,cF,aS]at cw ⊢;obtain⟨b,cx,hb⟩:=cw;rw[cx];go_simp;refine(jD bs b 5 [0,4,12,30,60] (w:=w') XN XN XN WQ (aq hb.2) (by have:=hb.1;omega) (fun i v hv=>by simp only[AN,hb.2];match i,hv with|0,hv=>simpa using hv|1,hv=>simpa using hv|2,hv=>simpa using hv|3,hv=>simpa using hv|4,hv=>simpa using hv) hC.1).mono ?_;rintro e w3 ⟨v,rfl,hv,hs,hm⟩;refine hK1.o (Bm Sj v) w3 ⟨hs,hC.2.trans hm fun _ h=>.inl h⟩ ⟨hm.size,fun k h1 h2=>hm.block k h2 Tev⟩ ⟨v,hv,aw lX⟩ _ ?_;simp only[over,cq,cF,aS,cx]
  refine kA.cons (deps:=[]) lX rfl Yp (fun vs d w' h0 hC hF K1 hK1=>?_) ?_
  ·exact Tbm
  refine kA.cons (deps:=[(22,63)]) lX rfl Yp (fun vs d w' h0 hC hF K1 hK1=>?_) ?_
  ·have cy:=(hF (22,63) XN).2;clear hF h0;simp only[over,cq,cF,aS]at cy ⊢;obtain⟨v,cz⟩:=cy;rw[cz];go_simp;refine hK1.o (Ft (v==0)) _ hC (rS.refl _ _) (⟨_,aw lX⟩) _ ?_;simp only[over,cq,cF,aS,cz]
  refine kA.cons (deps:=[]) lX rfl Yp (fun vs d w' h0 hC hF K1 hK1=>?_) ?_
  ·exact Tbm
  refine kA.cons (deps:=[(25,66)]) lX rfl Yp (fun vs d w' h0 hC hF K1 hK1=>?_) ?_
  ·have cB:=(hF (25,66) XN).2;clear hF h0;simp only[over,cq,cF,aS]at cB ⊢;obtain⟨v,cC⟩:=cB;rw[cC];go_simp;refine hK1.o (Ft (v==0)) _ hC (rS.refl _ _) (⟨_,aw lX⟩) _ ?_;simp only[over,cq,cF,aS,cC]
  refine kA.cons (deps:=[]) lX rfl Yp (fun vs d w' h0 hC hF K1 hK1=>?_) ?_
  ·clear hF h0;simp only[over,cq,Act.put];go_simp;refine(qY bs w' hC.1).mono ?_;rintro e w3 ⟨v,tl,rfl,u9,kf,hs,hm⟩;have Xv:=kf;obtain⟨tp,tc,hv,_⟩:=Xv;obtain rfl:v=FG tp tl.length tc:=by injection hv
   refine hK1.o (FG tp tl.length tc) w3 ⟨hs,hC.2.trans hm fun _ h=>.inl h⟩ ⟨hm.size,fun k h1 h2=>hm.block k h2 Tev⟩ ⟨tp,tc,tl,aw lX,(ck.moves aF.moves).mv ⟨bk _,fun k _ h=>⟨cA hC.2.size h,rfl⟩⟩ kf,u9⟩ _ ?_;simp only[over,cq,aS]
  refine kA.cons (deps:=[(10,51),(17,58),(20,61),(23,64),(26,67),(28,69)]) lX rfl Yp (fun vs d w' h0 hC hF K1 hK1=>?_) ?_
  ·have bL:=(hF (10,51) XN).2;have cD:=(hF (17,58) XN).2;have cI:=(hF (20,61) XN).2;have cK:=(hF (23,64) XN).2;have cM:=(hF (26,67) XN).2;have cN:=(hF (28,69) XN).2;clear hF h0;simp only[over,cq,cF,aS]at bL cD cI cK cM cN ⊢;obtain⟨cO,p1,p2,cP⟩:=cD;obtain⟨cS,p3,cT⟩:=cI;obtain⟨cV,cW⟩:=cK;obtain⟨cZ,d0⟩:=cM;obtain⟨tp,tc,tl,d8,t1,t2⟩:=cN;rw[bL,cP,cT,cW,d0,d8];go_simp;refine hK1.o (Tk #[By (pvT++digit M),Bm U8 ((M:Int)+1),Bm Sj cO,Bm Sj cS,Ft cV,Ft cZ,FG tp tl.length tc]) _ hC (rS.refl _ _) ⟨⟨pvT++digit M,(M:Int)+1,cO,cS,cV,cZ,tl⟩,tp,tc,⟨rfl,rfl,⟨p1,p2⟩,p3,t2⟩,aw lX,t1⟩ _ ?_;simp only[over,cq,cF,aS,bL,cP,cT,cW,d0,d8]
  refine kA.cons (deps:=[(29,70)]) lX rfl Yp (fun vs d w' h0 hC hF K1 hK1=>?_) trivial;have d9:=(hF (29,70) XN).2;clear hF h0;simp only[over,cq,cF,aS]at d9 ⊢;obtain⟨D,tp,tc,hd,db,t1⟩:=d9;rw[db];go_simp;refine hK1.o (FG (Vv w'.1.size) 1 1) _ ⟨hC.1.keep fun k hk=>cj _ _ _ TeV,hC.2.trans (G:=fun _=>False) (cR.of_below (ae _ _)) (fun _ f=>f.elim)⟩ (rS.alloc _ _ _) ⟨D,tp,tc,w'.1.size,hd,aw lX,dS.new hC.2.size,(ck.moves aF.moves).mv ⟨XN,fun k hk h=>⟨h,cj _ _ _ hk⟩⟩ t1⟩ _ ?_;simp only[over,cq,cF,aS,db]
 case fin =>
  intro vs d w' hC hF;have dc:=(hF (30,71) XN).2;clear hF;simp only[over,cq,cF,aS,cQ,cL]at dc ⊢;obtain⟨D,tp,tc,b,hD,dd,hb,t1⟩:=dc;rw[dd];generalize vs 6=z6;generalize vs 8=z8;generalize vs 9=z9;generalize vs 10=z10;generalize vs 16=z16;generalize vs 17=z17;generalize vs 19=z19;generalize vs 20=z20;generalize vs 22=z22;generalize vs 23=z23;generalize vs 25=z25;generalize vs 26=z26;generalize vs 28=z28;generalize vs 29=z29;clear dd;have D2:=D1.read hC.1 hC.2;have hb2:=D2.Gj;have RC:=hC.2.size;have RV:aO (fun b=>okD bb (FG dp M ir) nv b/\b<w'.1.size) w' [By D.name,Bm U8 D.id,Bm Sj D.first,Bm Sj D.Gc,Ft D.closed,Ft D.missing,FG tp (Wq D.tags) tc] D:=⟨_,rfl,(ck.moves aF.moves).mv ⟨bk _,fun k hk h=>⟨⟨D1.okNew h,hk⟩,rfl⟩⟩ t1⟩
  have HO:bF aO 7 69 (bb+1) (fun b=>okD bb (FG dp M ir) nv b/\b<w'.1.size) w' (FG dp M ir) Gb:=by
   obtain⟨cs,ho,hf⟩:=D2.ownD;exact⟨cs,ho,Flat.moves aO.moves ⟨bk _,fun k hk h=>⟨⟨h,hk⟩,rfl⟩⟩ _ _ hf⟩
  obtain⟨i0,hi,du,R0,dh⟩:=gg Dp;refine dX aO.moves underlying27 hi du R0 dh lX YR YR lX ZR (bb+1) (fun b=>okD bb (FG dp M ir) nv b/\b<w'.1.size) (FG dp M ir) Gb D ZR HO b 1 [By D.name,Bm U8 D.id,Bm Sj D.first,Bm Sj D.Gc,Ft D.closed,Ft D.missing,FG tp (Wq D.tags) tc] ZR ZR RV Tdj (fun j y hy=>?_) WQ WQ (fun k e ho=>ho.1.2.1 e) (fun gb cap w3 hp=>?_)
  ·exact TcI
  obtain⟨D3,hx⟩:=D2.pushD hp;have y7:w3.cell? (XM bb 7)=Vv (FG dp M ir):=by simp[AN,hx,D2.blk]
  have yf:w3.frozen? (XM bb 7)=VN:=by simp[BT,hx,D2.blk]
  clear hp hx RV HO hi du R0 dh t1 hb Xu;simp only[aS];simp only[hM]at D3;go_wp2;exact HK.o _ D _ _ _ _ _ _ _ _ _ _ _ _ _ _ _ _ _ _ _ _ _ _ _ _ _ _ _ _ _ _ _ _ _ _ _ _ hD D3
theorem yj{ext:Int}{next:PI}(D0:vy bs bb id seq ext tags w0 tv dv nv Gb next w)(hn:next.length<=100)
  {c4 bC bD bE bF bG bH bI bJ bK bM bO bP cg cj ck cq bQ bR bS bT bU bW bX bY bZ cd af ah ai aj ak aq au aw ay az aA aB aC aF aG aH aI aJ aK aM aN aO aP aQ aR aS aT aU aV aW aX aY aZ b9 bd bg bh bi bj bk bw bz:zY} 
  (HK:Hid (∀(nv':zY) (w':H7) (u76 u77 u78 u79 u80 u81 u82 u83 u84:zY),vy bs bb id seq ext tags w0 tv dv nv' Gb (next++[0]) w'->Q .normal ⟨#[c0,c1,c2,SL (Vv bb),c4,c5,c6,c7,c8,c9,c10,ZS,ao,Sf,TO,RK,RW,Rr,SO,Se,St,W0,ZD,Wg,Wr,To,UP,aE,ab,eS,da,dj,dq,fs,gE,ff,fb,fa,mT,me,ph,qe,qk,mu,mw,mx,nF,pr,o4,oE,oR,oS,pe,qt,qv,rl,rm,sE,sa,sd,yk,zd,zp,bC,bD,bE,bF,bG,bH,bI,bJ,bK,bL,bM,bO,bP,u76,u77,u78,u79,u80,u81,u82,u83,u84,bQ,bR,bS,bT,bU,bV,bW,bX,bY,bZ,ca,cc,cd,ce,cf,lE,lP,gn,iS,im,ka,kc,ke,pt,ta,tb,te,tf,ti,tr,tt,tw,vf,vj,vm,we,wg,wv,yW,a5,a7,a8,a9,af,ag,ah,ai,aj,ak,am,aq,au,av,aw,ay,az,aA,aB,aC,aF,aG,aH,aI,aJ,aK,aL,aM,aN,aO,aP,aQ,aR,aS,aT,aU,aV,aW,aX,aY,aZ,b8,b9,ba,bd,be,bf,bg,bh,bi,bj,bk,bl,bm,bp,bu,bw,bz],[]⟩ w')) :
  Code.wp prog (nA 9) Q ⟨#[c0,c1,c2,SL (Vv bb),c4,c5,c6,c7,c8,c9,c10,ZS,ao,Sf,TO,RK,RW,Rr,SO,Se,St,W0,ZD,Wg,Wr,To,UP,aE,ab,eS,da,dj,dq,fs,gE,ff,fb,fa,mT,me,ph,qe,qk,mu,mw,mx,nF,pr,o4,oE,oR,oS,pe,qt,qv,rl,rm,sE,sa,sd,yk,zd,zp,bC,bD,bE,bF,bG,bH,bI,bJ,bK,bL,bM,bO,bP,cg,ci,cj,ck,cl,cn,co,cp,cq,bQ,bR,bS,bT,bU,bV,bW,bX,bY,bZ,ca,cc,cd,ce,cf,lE,lP,gn,iS,im,ka,kc,ke,pt,ta,tb,te,tf,ti,tr,tt,tw,vf,vj,vm,we,wg,wv,yW,a5,a7,a8,a9,af,ag,ah,ai,aj,ak,am,aq,au,av,aw,ay,az,aA,aB,aC,aF,aG,aH,aI,aJ,aK,aL,aM,aN,aO,aP,aQ,aR,aS,aT,aU,aV,aW,aX,aY,aZ,b8,b9,ba,bd,be,bf,bg,bh,bi,bj,bk,bl,bm,bp,bu,bw,bz],[]⟩ w:=by
 conv=>arg 2;whnf
 have hlt:=D0.lt;have cX:=D0.Gj;have hc:=cr D0.blk 10 _ lX;have D1:=D0.below (ae w (Sx #[Bm Sj 0] 3));have OS:bb<(w.alloc (Sx #[Bm Sj 0] 3)).1.size:=D1.Gj;obtain⟨i0,hi,du,R0,RC⟩:=gg tZ;replace hi:=aa hi;replace du:=aa du;replace R0:=aa R0;replace RC:=aa RC;replace D1:=aa D1;go_wp2_with(at_builtin;refine dX cO.moves underlying22 hi.o du.o R0.o RC.o lX YR YR lX lX (bb+1) (fun _=>False) nv next 0 lX ?d1 w.1.size 1 [Bm Sj 0] lX rfl ?d2 ?d3 ?d4 ?d5 ?d6 ?d7 ?_)
 case d1=>exact D1.o.ownN.ownS _
 case d2=>exact lX
 case d3=>simp[Value.oneCell']
 all_goals first|(case d4=>(intro j y hy;exact aD lX Tdr))|(case d5=>omega)|(case d6=>omega)|(case d7=>exact fun _ _ f=>f)|skip
 intro gb cap w3 hp;obtain⟨D3,hx⟩:=D1.o.pushN hp;have y7:w3.cell? (XM bb 10)=Vv nv:=by simp[AN,hx,D1.o.blk]
 have yf:w3.frozen? (XM bb 10)=VN:=by simp[BT,hx,D1.o.blk]
 clear hp hx hc;go_wp2;exact HK.o _ _ _ _ _ _ _ _ _ _ _ D3
def Tdz(h:gt:=by cases e):=h
theorem vy.bld{ext:Int}{next:PI}(h:vy bs bb id seq ext tags w0 tv dv nv Gb next w) :
  eW (fun _=>False) w bs bb nv (FG VX 0 0) ⟨vgT,id,seq,ext,0,tags,Gb,[],[]⟩ next:=by
 have gw:∀b,okD bb dv nv b->ZQ (fun _=>False) bb nv (FG VX 0 0) b:=fun b q=>⟨q.1,q.2.2,fun e=>Tdz,fun f=>f⟩
 refine⟨h.src,h.lt,⟨tv,dv,FG VX 0 0,h.blk,(ck.moves aF.moves).mv ⟨bk _,fun b _ q=>⟨gw b q,rfl⟩⟩ h.rt,h.ownD.rd aO.moves YR (fun b _ q=>gw b q) (fun b e=>⟨(h.dLt e).1,h.ne b e,fun e=>Tdz,fun f=>f⟩),rfl,rfl⟩,h.ownN,⟨[],gS _ _ _ 6,rfl⟩,fun k _ e=>Tdz,fun _ f=>f.elim,fun _ _ f=>f,fun _ _ f=>f⟩
def Flat.last{α:Type}{V:jx α}{sz:Nat}{ok:LN}{x:α}:∀(l:wy α) (cs:RH),Flat V sz ok w cs (l++[x])->∃c u,cs=c++u/\Flat V sz ok w c l/\u.length=sz/\V ok w u x
 |[],_,⟨u,r,e,h1,h2,_,h4⟩=>⟨[],u,by simp only[Flat]at h4;rw[e,h4];simp,rfl,h1,h2⟩
 |y :: l,_,⟨u,r,e,h1,h2,h3,h4⟩=>by
  obtain⟨c,u',e',k1,k2,k3⟩:=Flat.last l r h4;exact⟨u++c,u',by rw[e,e',cV],⟨u,c,rfl,h1,h2,h3,k1⟩,k2,k3⟩
def F5(c:RH){a0 a1 a2 a3 a4:zY}{n:Nat}(hn:c.length=n) :
  ((((((c++[a0,a1,a2,a3,a4,a5]).set n b0).set (n+1) b1).set (n+2) b2).set (n+3) b3).set (n+4) b4).set (n+5) b5=c++[b0,b1,b2,b3,b4,b5]:=by
 subst hn;simp[List.set_append_right]
def fO(w:H7)(b o:Nat)(b0 b1 b2 b3 b4 b5:zY):H7:=(((((w.setCell (b,o) b0).setCell (b,o+1) b1).setCell (b,o+2) b2).setCell (b,o+3) b3).setCell (b,o+4) b4).setCell (b,o+5) b5
def IV(w:H7)(b o:Nat)(b0 b1 b2 b3 b4 b5:zY)(k:Nat)(h:k≠b):(fO w b o b0 b1 b2 b3 b4 b5).1[k]?=w.1[k]?:=by
 unfold fO;rw[bw _ _ _ _ h,bw _ _ _ _ h,bw _ _ _ _ h,bw _ _ _ _ h,bw _ _ _ _ h,bw _ _ _ _ h]
def sD(w:H7)(b o:Nat)(b0 b1 b2 b3 b4 b5:zY):(fO w b o b0 b1 b2 b3 b4 b5).1.size=w.1.size:=by simp[fO,AF]
def TeR(h:gt:=by simp[fO,World.setCell]):=h
def aH.setLast{rK rN:zY}{next:PI}{v V:ay}
  (p:aH X bs bb rK rN w0 w nv (FG (Vv vb) (vs.length+1) vc) g next) (hg:g.F9=vs++[v]) (hV:aN (ZQ X bb nv (FG (Vv vb) (vs.length+1) vc)) w [b0,b1,b2,b3,b4,b5] V) (h1:∀z∈[b0,b1,b2,b3,b4,b5],z.oneCell'=VR) :
  aH X bs bb rK rN w0 (fO w vb (vs.length*6) b0 b1 b2 b3 b4 b5) nv (FG (Vv vb) (vs.length+1) vc) { g with F9:=vs++[V] } next:=by
 have h:=p.bld;have XV:=h.vLt (k:=vb) lX;have hl:=h.lt;have kk:=fun k e=>IV w vb (vs.length*6) b0 b1 b2 b3 b4 b5 k e;have hz:=sD w vb (vs.length*6) b0 b1 b2 b3 b4 b5;have hm:Mv (ZQ X bb nv (FG (Vv vb) (vs.length+1) vc)) (ZQ X bb nv (FG (Vv vb) (vs.length+1) vc)) w (fO w vb (vs.length*6) b0 b1 b2 b3 b4 b5):=⟨WQ,fun b _ ho=>⟨ho,kk b (fun e=>ho.2.2.1 (by rw[e];rfl))⟩⟩
 refine⟨⟨h.src.keep fun i hi=>kk i WQ,hl,?_,aC h.ownN fun k e=>kk k (fun q=>h.ne k e (by rw[q];rfl)),?_,h.ne,fun k hx=>⟨(h.xlt k hx).1,by rw[hz];exact(h.xlt k hx).2⟩,h.xn,h.xv⟩,?_,p.nfr,p.vfr⟩
 ·obtain⟨tv,dv,hv,e,h1,h2,h3⟩:=h.blk;exact⟨tv,dv,hv,(kk bb WQ).trans e,(ck.moves aF.moves).mv hm h1,(ck.moves aO.moves).mv hm h2,h3⟩
 ·obtain⟨cs,ho,hf⟩:=h.ownV;rw[hg]at ho hf;obtain⟨c,u,rfl,hc,hu,_⟩:=Flat.last vs cs hf;have a8:=Flat.length _ _ hc;obtain⟨a0,a1,a2,a3,a4,a5,rfl⟩:∃a0 a1 a2 a3 a4 a5,u=[a0,a1,a2,a3,a4,a5]:=by
   match u,hu with
   |[a,b,c,d,e,f],_=>exact⟨a,b,c,d,e,f,rfl⟩
  have hle:(vs++[v]).length=vs.length+1:=by simp
  have a7:(vs++[V]).length=vs.length+1:=by simp
  rw[hle]at ho;have s:=(((((((ho.stored (vs.length*6) b0).1.stored (vs.length*6+1) b1).1.stored (vs.length*6+2) b2).1.stored (vs.length*6+3) b3).1.stored (vs.length*6+4) b4).1.stored (vs.length*6+5) b5)).1;rw[F5 c a8]at s;refine⟨c++[b0,b1,b2,b3,b4,b5],by rw[a7];unfold fO;exact s,Flat.append (Flat.one lX (aN.moves.mv hm hV) h1) _ _ (Flat.moves aN.moves hm _ _ hc)⟩
 refine p.mod.trans (G:=fun k=>k=vb) ⟨TeR,TeR,TeR,WQ,fun k _ e=>kk k e⟩ (fun k e=>?_);subst e;rcases p.vfr k rfl with q|q
 ·exact .inl (.inr (.inr (.inr q)))
 exact .inr q
def okH(bb:Nat)(hv:zY):Nat->Prop:=fun b=>bb<b/\hv.ownBlock≠Vv b
structure HSt(bs bb:Nat)(w0:H7)(g:af)(tv dv vv nv hv:zY)(hist:wy (H6 × H5))(w:H7):Prop where
 lt:bs<bb
 src:Src w bs
 blk:w.heap[bb]?=Vv (Sx (TaO (Vv ⟨bs,0,VX⟩) g tv dv vv hv nv) 63 (0,0))
 rt:ck aF 1 (okH bb hv) w [tv] g.tags
 rd:ck aO 7 (okH bb hv) w [dv] g.Gb
 rv:ck aN 6 (okH bb hv) w [vv] g.F9
 own:bF lF 3 75 (bb+1) (okH bb hv) w hv hist
 old:∀k,k<bb->k≠bs->w.heap[k]?=w0.heap[k]?
 str:Str w0 w
def eW.hst{next:PI}(h:eW (fun _=>False) w bs bb nv vv g next)(old:∀k,k<bb->k≠bs->w.1[k]?=w0.1[k]?)(str:Str w0 w):∃tv dv,HSt bs bb w0 g tv dv vv nv (FG VX 0 0) [] w:=by
 obtain⟨tv,dv,hv,e,h1,h2,rfl,_⟩:=h.blk;have hm:Mv (ZQ (fun _=>False) bb nv vv) (okH bb (FG VX 0 0)) w w:=⟨bk _,fun b _ q=>⟨⟨q.1,fun e=>Tdz⟩,rfl⟩⟩
 exact⟨tv,dv,h.lt,h.src,e,(ck.moves aF.moves).mv hm h1,(ck.moves aO.moves).mv hm h2,h.ownV.rd aN.moves YR (fun b _ q=>⟨q.1,fun e=>Tdz⟩) (fun b e=>⟨(h.vLt e).1,fun e=>Tdz⟩),⟨[],gS _ _ _ 3,rfl⟩,old,str⟩
section
variable {bs bb:Nat}{w0 w w' w2:H7}{g:af}{tv dv vv nv hv:zY}{hist:wy (H6 × H5)}
def HSt.Gj(h:HSt bs bb w0 g tv dv vv nv hv hist w):bb<w.1.size:=aq h.blk
def HSt.hLt(h:HSt bs bb w0 g tv dv vv nv hv hist w){k:Nat}(e:hv.ownBlock=Vv k):bb<k/\k<w.1.size:=by
 have:=h.own.ge0 e;omega
def HSt.keep(h:HSt bs bb w0 g tv dv vv nv hv hist w)(hst:Str w w')(hs:Src w' bs)(hz:w.1.size<=w'.1.size)(hk:∀k,k<w.1.size->k≠bs->w'.1[k]?=w.1[k]?):HSt bs bb w0 g tv dv vv nv hv hist w':=by
 have hl:=h.lt;have hb:=h.Gj;have hm:Mv (okH bb hv) (okH bb hv) w w':=⟨hz,fun b hb ho=>⟨ho,hk b hb TdJ⟩⟩;refine⟨hl,hs,(hk bb hb WQ).trans h.blk,(ck.moves aF.moves).mv hm h.rt,(ck.moves aO.moves).mv hm h.rd,(ck.moves aN.moves).mv hm h.rv,?_,fun k h1 h2=>(hk k WQ h2).trans (h.old k h1 h2),h.str.trans hst⟩;have mb:=fun k e=>h.hLt (k:=k) e;obtain⟨cs,ho,hf⟩:=h.own;exact⟨cs,aC ho fun k e=>hk k (mb k e).2 TeU,Flat.moves lF.moves hm _ _ hf⟩
def HSt.read(h:HSt bs bb w0 g tv dv vv nv hv hist w)(hs:Src w' bs)(hm:cR (fun i=>i=bs) w w'):HSt bs bb w0 g tv dv vv nv hv hist w':=h.keep hm.str hs hm.size fun k hk hn=>hm.block k hk hn
def HSt.below(h:HSt bs bb w0 g tv dv vv nv hv hist w)(hb:Below w.1.size w w'):HSt bs bb w0 g tv dv vv nv hv hist w' :=
 h.keep (ow hb) (h.src.keep fun i hi=>hb.block i TeO) hb.size fun k hk _=>hb.block k hk
def HSt.push{x:H6 × H5}{u:RH}{gb:Nat}(h:HSt bs bb w0 g tv dv vv nv hv hist w)
  (hp:jN lF 3 75 (bb+1) (fun _=>False) w hv hist x u gb cap w2) :
  HSt bs bb w0 g tv dv vv nv (FG (Vv gb) (hist.length+1) cap) (hist++[x]) (w2.setCell (XM bb 9) (FG (Vv gb) (hist.length+1) cap))/\w2.1[bb]?=w.1[bb]?:=by
 have hl:=h.lt;have hb:=h.Gj;have hz:=hp.grown.size;have kw:∀k,k<w.1.size->hv.ownBlock≠Vv k->w2.1[k]?=w.1[k]?:=fun k h1 h2=>hp.grown.block k h1 fun e=>h2 e.symm;have pC:w2.1[bb]?=w.1[bb]?:=kw bb hb fun e=>by have:=h.hLt e;omega
 have kk:∀k,k≠bb->(w2.setCell (XM bb 9) (FG (Vv gb) (hist.length+1) cap)).1[k]?=w2.1[k]?:=fun k e=>bw _ _ _ _ e;have a7:(w2.setCell (XM bb 9) (FG (Vv gb) (hist.length+1) cap)).1.size=w2.1.size:=by simp[AF]
 have a5:∀b,okH bb hv b->b<w.1.size->b≠gb:=fun b h1 h2 e=>by
  subst e;rcases hp.at' with q|q
  ·exact h1.2 q
  omega
 have old:∀k,k<bb->(w2.setCell (XM bb 9) (FG (Vv gb) (hist.length+1) cap)).1[k]?=w.1[k]?:=fun k hk=>(kk k WQ).trans (kw k WQ fun e=>by have:=h.hLt e;omega);have hm:Mv (okH bb hv) (okH bb (FG (Vv gb) (hist.length+1) cap)) w (w2.setCell (XM bb 9) (FG (Vv gb) (hist.length+1) cap)):=⟨WQ,fun b h1 h2=>⟨⟨h2.1,fun e=>a5 b h2 h1 TeL⟩,(kk b (by have:=h2.1;omega)).trans (kw b h1 h2.2)⟩⟩
 refine⟨⟨hl,h.src.keep fun i hi=>old i WQ,?_,(ck.moves aF.moves).mv hm h.rt,(ck.moves aO.moves).mv hm h.rd,(ck.moves aN.moves).mv hm h.rv,?_,fun k h1 h2=>(old k h1).trans (h.old k h1 h2),(h.str.trans (nQ hp.grown)).trans ⟨rfl,rfl,rfl⟩⟩,pC⟩
 ·exact block_setCell (i:=9) _ (pC.trans h.blk)
 obtain⟨cs,ho,hf⟩:=hp.own;exact⟨cs,aC ho fun k e=>kk k Teh,Flat.moves lF.moves ⟨WQ,fun b _ f=>f.elim⟩ _ _ hf⟩
end
variable {c i k bs bb:Nat}{g0 g g':af}{n0 next':PI}{name:H6}{w:H7}{nv:zY}
def letter(i:Nat):H6:=⟨#[(97+i).toUInt8]⟩
inductive iy (name:H6)(g:af)(next:PI):af->PI->Prop
 |linF:iy name g next { g with next:=g.next+1 } next
 |lin {n s:Int} {on:H6} {next1 next':PI} {Gf:wy aB} {ps:wy (H6 × H5)} (hn:1<=n/\n<=4) (h1:fZ g.Gb next [(on,s,n)] next1) (hm:fB [dE n on s] Gf) (hl:Gf.length<=3) (h2:fZ g.Gb next1 ps next') (hs:List.Sublist ((Gf.drop 1).flatMap iG) ps) :
   iy name g next { g with next:=g.next+1,F9:=g.F9++[⟨name,oX g.id (g.next+1),VN,VN,[],Gf⟩] } next'
 |strF {ps:wy (H6 × H5)} {next':PI} (h:fZ g.Gb next ps next'):iy name g next g next'
 |str {k n:Int} {al:wy aR} {next':PI} (hk:2<=k/\k<=3) (hn:1<=n/\n<=2) (hl:(al.length:Int)=k) (ha:∀a∈al,a.vol=VN) (h:fZ g.Gb next (UO n al) next') :
   iy name g next { g with next:=g.next+1,F9:=g.F9++[tC name (oX g.id (g.next+1)) k n al] } next'
 |compF {j:Nat} (h:j<=8):iy name g next { g with next:=g.next+j } next
 |comp {kind n:Int} {names:QN} {lengths:PI} {x:aB} {ps:wy (H6 × H5)} {vl tl:wy ay} {ro:Bool} {tags:QN} {k j:Nat} {next':PI} (AK:kind=3\/kind=4\/kind=5\/kind=7) (hn:1<=n/\n<=3) (hR:lZ g.Gd n name kind names lengths x)
   (hH:lD g.id g.next names lengths ps vl) (hT:fZ g.Gb next ps next') (ht:List.Sublist tags iQ) (hk:k<=2) (hk5:kind≠5->k=j/\k=0) (hth:iO g.id name k (g.next+names.length+1+1) j tl) :
   iy name g next { g with next:=g.next+names.length+1+tl.length,F9:=g.F9++vl++[⟨name,oX g.id (g.next+names.length+1),VN,ro,tags,[x]⟩]++tl } next'
inductive bZ (c:Nat)(g0:af)(n0:PI):Nat->af->PI->Prop
 |nil:bZ c g0 n0 c g0 n0
 |step {i:Nat} {g g':af} {next next':PI} (h:bZ c g0 n0 (i+1) g next) (hs:iy (letter (i+1)) g next g' next'):bZ c g0 n0 i g' next'
def bZ.next{next:PI}(hi:0<i)(h:bZ c g0 n0 i g next)(hs:iy (letter i) g next g' next'):bZ c g0 n0 (i-1) g' next':=by
 obtain⟨j,rfl⟩:∃j,i=j+1:=⟨i-1,WQ⟩;exact .step h hs
theorem iO.len{id:Int}{c:Int}(h:iO id name k c j tl):tl.length+j=k:=by
 induction h with
 |nil=>simp
 |snoc _ _ ih=>simp;omega
structure Fh(g:af)(next:PI)(g':af)(next':PI):Prop where
 same:g'.name=g.name/\g'.id=g.id/\g'.seq=g.seq/\g'.Gd=g.Gd/\g'.tags=g.tags/\g'.Gb=g.Gb/\g'.history=g.history
 F9:Wq g'.F9<=Wq g.F9+11
 nx1:g.next<=g'.next
 nx2:g'.next<=g.next+11
 dk:DOk g.Gb next->DOk g.Gb next'
def Tdf(h:gt:=by dsimp only;omega):=h
def iy.bd{next:PI}(h:iy name g next g' next')(he:1<=g.Gd/\g.Gd<=16):Fh g next g' next':=by
 cases h with
 |linF=>exact⟨⟨rfl,rfl,rfl,rfl,rfl,rfl,rfl⟩,XN,Tdf,Tdf,fun q=>q⟩
 |lin hn h1 hm hl h2 hs=>exact⟨⟨rfl,rfl,rfl,rfl,rfl,rfl,rfl⟩,XN,Tdf,Tdf,fun q=>h2.ok (h1.ok q)⟩
 |strF h=>exact⟨⟨rfl,rfl,rfl,rfl,rfl,rfl,rfl⟩,WQ,WQ,WQ,fun q=>h.ok q⟩
 |str hk hn hl ha h=>exact⟨⟨rfl,rfl,rfl,rfl,rfl,rfl,rfl⟩,XN,Tdf,Tdf,fun q=>h.ok q⟩
 |compF h=>exact⟨⟨rfl,rfl,rfl,rfl,rfl,rfl,rfl⟩,XN,Tdf,Tdf,fun q=>q⟩
 |comp AK hn hR hH hT ht hk hk5 hth =>
  have h1:=hR.ok he.1 he.2 hn.1 hn.2;have h2:=hH.len;have h3:=hth.len;exact⟨⟨rfl,rfl,rfl,rfl,rfl,rfl,rfl⟩,ZY,Tdf,Tdf,fun q=>hT.ok q⟩
structure Zy(c i:Nat)(g0:af)(g:af)(next:PI):Prop where
 same:g.name=g0.name/\g.id=g0.id/\g.seq=g0.seq/\g.Gd=g0.Gd/\g.tags=g0.tags/\g.Gb=g0.Gb/\g.history=g0.history
 le:i<=c
 F9:Wq g.F9<=11*(c-i)
 nx1:0<=g.next
 nx2:g.next<=11*((c:Int)-i)
 dk:DOk g0.Gb next
def bZ.bd(h0:g0.F9=[]/\g0.next=0)(he:1<=g0.Gd/\g0.Gd<=16)(hd:DOk g0.Gb n0){next:PI}(h:bZ c g0 n0 i g next):Zy c i g0 g next:=by
 induction h with
 |nil=>exact⟨⟨rfl,rfl,rfl,rfl,rfl,rfl,rfl⟩,bk _,by simp[h0.1],WQ,WQ,hd⟩
 |@step i g g' next next' h hs ih =>
  obtain⟨e1,e2,e3,e4,e5,e6,e7⟩:=ih.same;have b:=hs.bd (by rw[e4];exact he);obtain⟨q1,q2,q3,q4,q5,q6,q7⟩:=b.same;have h1:=ih.le;have h2:=ih.F9;have h3:=ih.nx1;have h4:=ih.nx2;have h5:=b.F9;have h6:=b.nx1;have h7:=b.nx2;exact⟨⟨q1.trans e1,q2.trans e2,q3.trans e3,q4.trans e4,q5.trans e5,q6.trans e6,q7.trans e7⟩,WQ,WQ,WQ,WQ,e6 ▸ b.dk (e6.symm ▸ ih.dk)⟩
def tY{ok:LN}:∀(l:wy (H6 × H5)) (cs:RH),Flat lF 3 ok w cs l->Flat lF 3 ok' w cs l
 |[],_,h=>h
 |_ :: l,_,⟨u,r,e,h1,h2,h3,h4⟩=>⟨u,r,e,h1,h2,h3,tY l r h4⟩
def Ef:(prog.info? 75).map (fun i=>(i.zero,i.size,i.bytes))=Vv (Vv (Tk #[By ⟨#[]⟩,Bm U8 0,Bm Sj 0]),3,32):=by kernel_rfl
def wG{w0:H7}{tv dv hv:zY}{hist:wy (H6 × H5)}(D0:HSt bs bb w0 g tv dv vv nv hv hist w)(hn:hist.length<=100)(hi2:i<=2)
  {c4 bC bD bE bF bG bH bI bJ bK bM bO bP bQ bR bS bT bU bW bX bY bZ cd cg cj ck cq af ah ai aj ak aq au aw ay az aA aB aC aF aG aH aI aJ aK aM aN aO aP aQ aR aS aT aU aV aW aX bd bg bh bi bj bk bw bz aY aZ b9:zY} 
  (HK:Hid (∀(ct:zY) (w':H7) (u163 u164 u165 u166 u167 u168 u169 u170 u171 u172 u173 u174 u175 u176 u177:zY),HSt bs bb w0 g tv dv vv nv ct (hist++[(BQ,(i:Int),(i:Int))]) w'->Q .normal ⟨#[c0,c1,c2,SL (Vv bb),c4,c5,c6,c7,c8,c9,c10,Bm Sj (i:Int),ao,Sf,TO,RK,RW,Rr,SO,Se,St,W0,ZD,Wg,Wr,To,UP,aE,ab,eS,da,dj,dq,fs,gE,ff,fb,fa,mT,me,ph,qe,qk,mu,mw,mx,nF,pr,o4,oE,oR,oS,pe,qt,qv,rl,rm,sE,sa,sd,yk,zd,zp,bC,bD,bE,bF,bG,bH,bI,bJ,bK,bL,bM,bO,bP,bQ,bR,bS,bT,bU,bV,bW,bX,bY,bZ,ca,cc,cd,ce,cf,cg,ci,cj,ck,cl,cn,co,cp,cq,lE,lP,gn,iS,im,ka,kc,ke,pt,ta,tb,te,tf,ti,tr,tt,tw,vf,vj,vm,we,wg,wv,yW,a5,a7,a8,a9,af,ag,ah,ai,aj,ak,am,aq,au,av,aw,ay,az,aA,aB,aC,aF,aG,aH,aI,aJ,aK,aL,aM,aN,aO,aP,aQ,aR,aS,aT,aU,aV,aW,aX,u163,u164,u165,u166,u167,u168,u169,u170,u171,u172,u173,u174,u175,u176,u177,aY,aZ,b8,b9],[]⟩ w')) :
  Code.wp prog (nA 25) Q ⟨#[c0,c1,c2,SL (Vv bb),c4,c5,c6,c7,c8,c9,c10,Bm Sj (i:Int),ao,Sf,TO,RK,RW,Rr,SO,Se,St,W0,ZD,Wg,Wr,To,UP,aE,ab,eS,da,dj,dq,fs,gE,ff,fb,fa,mT,me,ph,qe,qk,mu,mw,mx,nF,pr,o4,oE,oR,oS,pe,qt,qv,rl,rm,sE,sa,sd,yk,zd,zp,bC,bD,bE,bF,bG,bH,bI,bJ,bK,bL,bM,bO,bP,bQ,bR,bS,bT,bU,bV,bW,bX,bY,bZ,ca,cc,cd,ce,cf,cg,ci,cj,ck,cl,cn,co,cp,cq,lE,lP,gn,iS,im,ka,kc,ke,pt,ta,tb,te,tf,ti,tr,tt,tw,vf,vj,vm,we,wg,wv,yW,a5,a7,a8,a9,af,ag,ah,ai,aj,ak,am,aq,au,av,aw,ay,az,aA,aB,aC,aF,aG,aH,aI,aJ,aK,aL,aM,aN,aO,aP,aQ,aR,aS,aT,aU,aV,aW,aX,ba,bd,be,bf,bg,bh,bi,bj,bk,bl,bm,bp,bu,bw,bz,aY,aZ,b8,b9],[]⟩ w:=by
 conv=>arg 2;whnf
 have hlt:=D0.lt;have cX:=D0.Gj;have hc:=cr D0.blk 9 _ lX;have cu:IntKind.u64.wrap (i:Int)=(i:Int):=IntWalk.u64_in _ WQ;have D1:=D0.below (ae w (Sx #[By ⟨#[111,108,100]⟩,Bm U8 (i:Int),(i:Int)] 75));have OS:bb<(w.alloc (Sx #[By ⟨#[111,108,100]⟩,Bm U8 (i:Int),(i:Int)] 75)).1.size:=D1.Gj;obtain⟨i0,hi,du,R0,RC⟩:=gg Ef;replace hi:=aa hi;replace du:=aa du;replace R0:=aa R0;replace RC:=aa RC;replace D1:=aa D1;go_wp2_with(at_builtin;refine dX lF.moves underlying29 hi.o du.o R0.o RC.o lX YR YR lX lX (bb+1) (fun _=>False) hv hist (BQ,(i:Int),(i:Int)) lX ?d1 w.1.size 1 [By ⟨#[111,108,100]⟩,Bm U8 (i:Int),Bm Sj (i:Int)] lX rfl ?d2 ?d3 ?d4 ?d5 ?d6 ?d7 ?_)
 case d1 =>
  obtain⟨cs,ho,hf⟩:=D1.o.own;exact⟨cs,ho,tY _ _ hf⟩
 case d2=>exact lX
 case d3=>simp[Value.oneCell']
 all_goals first|(case d4=>(intro j y hy;exact aD lX Tdr))|(case d5=>omega)|(case d6=>omega)|(case d7=>exact fun _ _ f=>f)|skip
 intro gb cap w3 hp;obtain⟨D3,hx⟩:=D1.o.push hp;have y7:w3.cell? (XM bb 9)=Vv hv:=by simp[AN,hx,D1.o.blk]
 have yf:w3.frozen? (XM bb 9)=VN:=by simp[BT,hx,D1.o.blk]
 clear hp hx hc;go_wp2;exact HK.o _ _ _ _ _ _ _ _ _ _ _ _ _ _ _ _ _ D3
def Td6(h:gt:=by simp only[dE];omega):=h
def wN{sb:Nat}{next:PI}{mz s:Int}(h:eW X w bs bb nv (FG (Vv vb) (M+1) vc) g next)(hk:BOk g next)(hM:vs.length=M)(hg:g.F9=vs++[eD name mz VN n on s])(hn:1<=n/\n<=4)(hT:w.cell? (vb,M*6+5)=Vv (FG (Vv sb) 1 1))
  {c4 bM bO bP bQ bR bS bT bU bW bX bY bZ cd cg cj ck cq cr ct cu cv cw cx cy cz cA cB aV aW aX aY aZ b9 bd bg bh bi bw bz bD bE bF bG bH bI bJ ae af ah ai ak aq au aw az aA aC aD aF aG aI aJ aK aM aN aO aQ aR aS aT aU:zY}  (hQ:∀c (a:Act) (d:Tmp) (v:zY) w,Q (.panic c) (a.put (Vv d) v) w->Q (.panic c) a w)
  (HK:Hid (∀(Gf:wy aB) (ps:wy (H6 × H5)) (next':PI) (w':H7) (u122 u123 u124 u125 u126 u127 u128 u129 u130 u131 u132 u133 u134 u135 u136 u137 u138 u139 u140 u141 u142 u143 u144 u145 u146 u147 u148 u149 u150:zY),fB (eD name mz VN n on s).Gf Gf->Gf.length<=3->fZ g.Gb next ps next'->List.Sublist ((Gf.drop 1).flatMap iG) ps->aH X bs bb nv (FG (Vv vb) (M+1) vc) w w' nv (FG (Vv vb) (M+1) vc) { g with F9:=vs++[⟨name,mz,VN,VN,[],Gf⟩] } next'->Q .normal ⟨#[c0,c1,c2,SL (Vv bb),c4,c5,c6,c7,c8,c9,c10,ZS,ao,Sf,TO,RK,RW,Rr,SO,Se,St,W0,ZD,Wg,Wr,To,UP,aE,ab,eS,da,dj,dq,fs,gE,ff,fb,fa,mT,me,ph,qe,qk,mu,mw,mx,nF,pr,o4,oE,oR,oS,pe,qt,qv,rl,rm,sE,sa,sd,yk,zd,zp,bL,bM,bO,bP,bQ,bR,bS,bT,bU,bV,bW,bX,bY,bZ,ca,cc,cd,ce,cf,cg,ci,cj,ck,cn,co,cp,cq,cr,ct,cu,cv,cw,cx,cy,cz,cA,cB,lE,lP,gn,iS,im,ka,kc,ke,pt,ta,tb,te,tf,ti,tr,tt,tw,vf,vj,vm,we,wg,u122,u123,u124,u125,u126,u127,u128,u129,u130,u131,u132,u133,u134,u135,u136,u137,u138,u139,u140,u141,u142,u143,u144,u145,u146,u147,u148,u149,u150,a8,a9,ae,af,ag,ah,ai,ak,am,aq,au,av,aw,az,aA,aC,aD,aF,aG,aI,aJ,aK,aL,aM,aN,aO,aQ,aR,aS,aT,aU],[]⟩ w')) :
  Code.wp prog (nA 19) Q ⟨#[c0,c1,c2,SL (Vv bb),c4,c5,c6,c7,c8,c9,c10,ZS,ao,Sf,TO,RK,RW,Rr,SO,Se,St,W0,ZD,Wg,Wr,To,UP,aE,ab,eS,da,dj,dq,fs,gE,ff,fb,fa,mT,me,ph,qe,qk,mu,mw,mx,nF,pr,o4,oE,oR,oS,pe,qt,qv,rl,rm,sE,sa,sd,yk,zd,zp,bL,bM,bO,bP,bQ,bR,bS,bT,bU,bV,bW,bX,bY,bZ,ca,cc,cd,ce,cf,cg,ci,cj,ck,cn,co,cp,cq,cr,ct,cu,cv,cw,cx,cy,cz,cA,cB,lE,lP,gn,iS,im,ka,kc,ke,pt,ta,tb,te,tf,ti,tr,tt,tw,vf,vj,vm,we,wg,wv,yW,aV,aW,aX,aY,aZ,b8,b9,ba,bd,be,bf,bg,bh,bi,bl,bm,bp,bu,bw,bz,bD,bE,bF,bG,bH,bI,bJ,a8,a9,ae,af,ag,ah,ai,ak,am,aq,au,av,aw,az,aA,aC,aD,aF,aG,aI,aJ,aK,aL,aM,aN,aO,aQ,aR,aS,aT,aU],[]⟩ w:=by
 conv=>arg 2;whnf
 have hlt:=h.lt;have cX:=h.Gj;have mb:=hk.vl;have cP:M<=99:=by rw[hg,cD,hM]at mb;simp at mb;omega
 clear mb;have cG:=h.c8;have hle:(vs++[eD name mz VN n on s]).length=M+1:=by simp[hM]
 obtain⟨cl,ho,hf⟩:=h.ownV;rw[hg]at ho hf;rw[hle]at ho;have ij:M+1<=vc/\vc<=9223372036854775807:=by
  rcases ho.2 with⟨e,_⟩|⟨g0,c0,cR,e,_,_,h1,h2,_⟩
  ·cases e
  injection e with _ _ e3;subst e3;exact⟨h1,by unfold maxLen at h2;omega⟩
 have Q6:=ij.1;have cS:=ij.2;clear ij;obtain⟨c,u,rfl,hc,hu,hv⟩:=Flat.last vs cl hf;have bK:=Flat.length _ _ hc;rw[hM]at bK;obtain⟨tv,sv,rfl,ht,hs⟩:=hv;obtain⟨tp,tc,cC,ht2,cI,_⟩:=ht;obtain rfl:tv=FG tp 0 tc:=by injection cC
 have cF:∀(j:Nat) (z:zY),[By name,Bm U8 mz,Ft VN,Ft VN,FG tp 0 tc,sv][j]?=Vv z->w.cell? ⟨vb,M*6+j,VX⟩=Vv z:=fun j z hz=>by
  have hj:j<6:=(AT.1 hz).1;rw[ho.cellAt (M*6+j) WQ,Cp WQ,bK,Nat.add_sub_cancel_left];exact hz
 obtain⟨q0,q1,q2,q3,q4,q5⟩:=sv6 cF;obtain rfl:sv=FG (Vv sb) 1 1:=by rw[hT]at q5;injection q5 with q5;exact q5.symm
 have HT:Hid (iL bC 11 (ZQ X bb nv (FG (Vv vb) (M+1) vc)) w (FG (Vv sb) 1 1) [dE n on s]):=by
  obtain⟨p,c,e,_,_,h3⟩:=hs;obtain⟨b,o,rfl,hb,gR,cK⟩:=h3 (by simp[eD]);obtain⟨rfl,rfl⟩:sb=b/\0=o:=by
   injection e with e;injection e with e;injection e with e;injection e with e1 e2;exact⟨e1,e2⟩
  obtain⟨u,hu,hv,hc⟩:=cK 0 _ lX;refine aa ⟨sb,u,rfl,hb,gR,Flat.one hu hv ?_,fun j y hy=>by simpa using hc j y hy,XN⟩;obtain⟨a,st,rfl,⟨_,_,ea,_⟩,⟨_,_,cM,_⟩⟩:=hv;obtain rfl:=IF.1 ea;obtain rfl:=IF.1 cM;simp[Value.oneCell']
 clear cF hT hs cC hu hc hf ho bK;refine gW (fun w'=>w'.cell? (XM bb 8)=Vv (FG (Vv vb) (M+1) vc)) 28 [0,1,2,3,5,6,7,8,12,13,14,15,16,18,19,20,21] Yp cG (fun a5=>?_);have cT:IntKind.i64.wrap (M:Int)=(M:Int):=dy _ WQ;have z1:(0:Int)<=(M:Int):=by omega
 have z2:(M:Int)<(M:Int)+1:=by omega
 refine gC hQ 0 ?_;refine gC hQ 1 ?_;refine gC hQ 2 ?_;refine gC hQ 3 ?_;refine gC hQ 5 ?_;refine gC hQ 6 ?_;refine gC hQ 7 ?_;refine gC hQ 8 ?_;refine gC hQ 12 ?_;refine gC hQ 13 ?_;refine gC hQ 14 ?_;refine gC hQ 15 ?_;refine gC hQ 16 ?_;refine gC hQ 18 ?_;refine gC hQ 19 ?_;refine gC hQ 20 ?_;refine gC hQ 21 ?_;refine cH hQ 4 a5 ?_;refine cH hQ 9 a5 ?_;refine cH hQ 17 a5 ?_;refine cH hQ 22 a5 ?_;refine cH hQ 10 a5 ?_;refine cH hQ 11 a5 ?_;refine cH hQ 23 a5 ?_;refine cH hQ 24 a5 ?_;refine cH hQ 25 a5 ?_;have h1:=h.below ((bj _ _).drew);have cN:w.drew.1=w.1:=rfl;have d0:w.drew.cell? (vb,M*6)=_:=q0;have d1:w.drew.cell? (vb,M*6+1)=_:=q1;have d2:w.drew.cell? (vb,M*6+2)=_:=q2;have d3:w.drew.cell? (vb,M*6+3)=_:=q3;have d4:w.drew.cell? (vb,M*6+4)=_:=q4;have d5:w.drew.cell? (vb,M*6+5)=_:=q5;refine lR 26 fun K1 hK1=>?_;go_simp;refine hK1.o _ _ a5 ?_;clear hK1 K1 q0 q1 q2 q3 q4 q5 d0 d1 d2 d3 d4 d5;refine lR 27 fun K1 hK1=>?_;go_simp;have Rt:Hid (iL bC 11 (ZQ X bb nv (FG (Vv vb) (M+1) vc)) w.drew (FG (Vv sb) 1 1) [dE n on s]):=aa (HT.o.moves bC.moves ⟨bk _,fun _ _ q=>⟨q,rfl⟩⟩);generalize cO:w.drew=wd at *;refine(CE X bs bb sb 0 tc tp nv g next wd h1 hk name mz VN VN (dE n on s) Td6 Rt.o).mono ?_;rintro e w6 ⟨sv,Gf,ps,next',rfl,Xw,GF,DB,u9,P6,kf⟩;refine hK1.o _ _ P6.bld.c8 ?_;clear hK1 K1 a5 HT Rt;refine aP Yp lX ?_;simp only[cQ,cL];have B2:=aa kf;obtain⟨sp,sc,hsv,_⟩:=kf;obtain rfl:sv=FG sp Gf.length sc:=by injection hsv
 clear hsv;obtain⟨cl,ho,hf⟩:=P6.bld.ownV;rw[hg]at ho;rw[hle]at ho;have hll:=ho.1;have a7:∀j,j<6->∃z,w6.cell? ⟨vb,M*6+j,VX⟩=Vv z:=fun j hj=>by
  rw[ho.cellAt (M*6+j) WQ];exact aj cl (M*6+j) (by rw[hll];omega)
 have Yi:=ho.frozenAt;obtain⟨z0,y0⟩:=a7 0 WQ;obtain⟨cV,y1⟩:=a7 1 WQ;obtain⟨cW,y2⟩:=a7 2 WQ;obtain⟨z3,y3⟩:=a7 3 WQ;obtain⟨z4,y4⟩:=a7 4 WQ;obtain⟨z5,y5⟩:=a7 5 WQ;replace y0:w6.cell? (vb,M*6)=Vv z0:=y0;clear a7 ho hf hll;have P0:aH X bs bb nv (FG (Vv vb) (M+1) vc) w wd nv (FG (Vv vb) (M+1) vc) g next:=by rw[<- cO];exact(aH.refl h).drewN 1
 have HP:=aa (P0.trans P6);clear P0 P6 h1;go_wp2;subst hM;exact HK.o Gf ps next' _ _ _ _ _ _ _ _ _ _ _ _ _ _ _ _ _ _ _ _ _ _ _ _ _ _ _ _ _ _ Xw GF DB u9 (HP.o.setLast hg ⟨_,_,rfl,⟨tp,tc,rfl,ht2,cI,fun q=>absurd q XN⟩,B2.o⟩ Tdj)
structure sU(g:af):Prop where
 ex:∃(c:Nat) (g0 g1:af) (next:PI),c<=4/\g0.name=vgT/\(0<=g0.id/\g0.id<=999)/\(0<=g0.seq/\g0.seq<=49)/\g0.Gd∈([1,2,4,8,16]:PI)/\g0.next=0/\List.Sublist g0.tags iQ/\g0.F9=[]/\g0.history=[] /\
  (1<=Wq g0.Gb/\Wq g0.Gb<=4)/\(∀(k:Nat) (D:az),g0.Gb[k]?=Vv D->rH k D)/\bZ c g0 (DE (Wq g0.Gb) 0) 0 g1 next/\g={ g1 with history:=g.history }/\Wq g.history<=2/\∀x∈g.history,∃i:Nat,1<=i/\i<=2/\x=(BQ,(i:Int),(i:Int))
def uX(bs:Nat)(w:H7)(e:Ending)(w':H7):Prop :=
 ∃(g:af) (t d v h:zY),e=S6 (Tk #[g.name,Bm U8 g.id,Bm Sj g.seq,Bm Sj g.Gd,Bm Sj g.next,t,d,v,h]) /\
  EU (fun b=>w.1.size<=b) w' [By g.name,Bm U8 g.id,Bm Sj g.seq,Bm Sj g.Gd,Bm Sj g.next,t,d,v,h] g/\sU g/\Src w' bs/\Str w w'/\w.1.size<=w'.1.size/\∀k,k<w.1.size->k≠bs->w'.1[k]?=w.1[k]?
def setN(w:H7)(b o:Nat):RH->H7
 |[]=>w
 |v :: l=>setN (w.setCell (b,o) v) b (o+1) l
def nY(h:k≠b):∀(l:RH) (w:H7) (o:Nat),(setN w b o l).1[k]?=w.1[k]?
 |[],_,_=>rfl
 |v :: l,w,o=>(nY h l _ _).trans (bw w ⟨b,o,VX⟩ v k h)
def og(b:Nat):∀(l:RH) (w:H7) (o:Nat),(setN w b o l).1.size=w.1.size
 |[],_,_=>rfl
 |v :: l,w,o=>(og b l _ _).trans Tdi
def ql(b:Nat):∀(l:RH) (w:H7) (o:Nat),Str w (setN w b o l)
 |[],w,_=>Str.refl w
 |v :: l,w,o=>Str.trans (b:=w.setCell (b,o) v) ⟨rfl,rfl,rfl⟩ (ql b l _ _)
def Ff(cs:Array zY)(o:Nat):RH->Array zY
 |[]=>cs
 |v :: l=>Ff (cs.setIfInBounds o v) (o+1) l
def wO{t:TypeId}:∀(l:RH) (w:H7) (o:Nat) (cs:Array zY),w.1[b]?=Vv (Sx cs t (0,0))->(setN w b o l).1[b]?=Vv (Sx (Ff cs o l) t (0,0))
 |[],_,_,_,h=>h
 |v :: l,_w,o,_cs,h=>wO l _ _ _ (block_setCell (i:=o) v h)
def TaF(x0:IH):Tab #[SL x0,By ⟨#[]⟩,Bm U8 0,Bm Sj 0,Bm Sj 0,Bm Sj 0,FG VX 0 0,FG VX 0 0,FG VX 0 0,FG VX 0 0,FG VX 0 0]:=⟨⟩
structure pJ(bs R:Nat)(w0 W:H7):Prop where
 src:Src W bs
 lt:bs<R
 blk:W.heap[R+1]?=Vv (Sx (TaF (Vv ⟨bs,0,VX⟩)) 63 (0,0))
 old:∀k,k<R+1->k≠bs->W.heap[k]?=w0.heap[k]?
 str:Str w0 W
section
variable {bs R:Nat}{w0 W W':H7}
def pJ.keep(h:pJ bs R w0 W)(hst:Str W W')(hs:Src W' bs)(hk:∀k,k<W.1.size->k≠bs->W'.1[k]?=W.1[k]?):pJ bs R w0 W':=by
 have hl:=h.lt;have hb:=aq h.blk;exact⟨hs,hl,(hk _ hb WQ).trans h.blk,fun k h1 h2=>(hk k WQ h2).trans (h.old k h1 h2),h.str.trans hst⟩
def pJ.read(h:pJ bs R w0 W)(hs:Src W' bs)(hm:cR (fun i=>i=bs) W W'):pJ bs R w0 W':=h.keep hm.str hs fun k h1 h2=>hm.block k h1 h2
def pJ.below(h:pJ bs R w0 W)(hb:Below W.1.size W W'):pJ bs R w0 W':=h.keep (ow hb) (h.src.keep fun i hi=>hb.block i (by have:=h.lt;have:=aq h.blk;omega)) fun k h1 _=>hb.block k h1
theorem pJ.dst{id seq ext:Int}{tags:QN}{tv:zY}(h:pJ bs R w0 W)(ht:ck aF 1 (fun k=>R+1<k) W [tv] tags) :
  vy bs (R+1) id seq ext tags w0 tv (FG VX 0 0) (FG VX 0 0) [] [] (setN W (R+1) 1 [(By vgT),(Bm U8 id),(Bm Sj seq),(Bm Sj ext),(Bm Sj 0),tv,(FG VX 0 0),(FG VX 0 0),(FG VX 0 0)]):=by
 have hl:=h.lt;have kk:=fun k e=>nY (b:=R+1) (k:=k) e [(By vgT),(Bm U8 id),(Bm Sj seq),(Bm Sj ext),(Bm Sj 0),tv,(FG VX 0 0),(FG VX 0 0),(FG VX 0 0)] W 1;have hz:=og (R+1) [(By vgT),(Bm U8 id),(Bm Sj seq),(Bm Sj ext),(Bm Sj 0),tv,(FG VX 0 0),(FG VX 0 0),(FG VX 0 0)] W 1;have hst:=ql (R+1) [(By vgT),(Bm U8 id),(Bm Sj seq),(Bm Sj ext),(Bm Sj 0),tv,(FG VX 0 0),(FG VX 0 0),(FG VX 0 0)] W 1;have hb:=wO [(By vgT),(Bm U8 id),(Bm Sj seq),(Bm Sj ext),(Bm Sj 0),tv,(FG VX 0 0),(FG VX 0 0),(FG VX 0 0)] W 1 _ h.blk;simp only[Ff,xT,List.set_cons_zero,List.set_cons_succ,Nat.reduceAdd]at hb;generalize setN W (R+1) 1 [(By vgT),(Bm U8 id),(Bm Sj seq),(Bm Sj ext),(Bm Sj 0),tv,(FG VX 0 0),(FG VX 0 0),(FG VX 0 0)]=V at *;exact⟨h.src.keep fun i hi=>kk i WQ,WQ,hb,(ck.moves aF.moves).mv ⟨WQ,fun b _ q=>⟨⟨q,fun e=>Tdz,fun e=>Tdz⟩,kk b WQ⟩⟩ ht,⟨[],gS _ _ _ 7,rfl⟩,eG.nil _ _,fun k e=>Tdz,fun k h1 h2=>(kk k WQ).trans (h.old k h1 h2),h.str.trans hst⟩
end
def UR{p:Prop}(h:p):=h
def TaD :Tab #[By ⟨#[97]⟩,By ⟨#[98]⟩,By ⟨#[99]⟩,By ⟨#[100]⟩,By ⟨#[101]⟩]:=⟨⟩
def Tar :Tab #[By ⟨#[]⟩,Bm U8 0,Bm Sj 0,Bm Sj 0,Bm Sj 0,FG VX 0 0,FG VX 0 0,FG VX 0 0,FG VX 0 0]:=⟨⟩
theorem Ca(bs:Nat)(w:H7)(h:Src w bs):Calls prog 5 #[SL (Vv bs)] w (uX bs w):=by
 have gO:=h.lt;go_enter func5,ntmps5
 have P1:pJ bs w.1.size (w.alloc (Sx Tar 31)) ((w.alloc (Sx Tar 31)).alloc (Sx (TaF (Vv ⟨bs,0,VX⟩)) 63)):=by
  have hz:(w.alloc (Sx Tar 31)).1.size=w.1.size+1:=by simp
  refine⟨h.keep fun i hi=>?_,gO,?_,fun k h1 _=>cj _ _ _ WQ,⟨rfl,rfl,rfl⟩⟩
  ·rw[cj _ _ _ WQ,cj _ _ _ WQ]
  have:=b9 (w.alloc (Sx Tar 31)) (Sx (TaF (Vv ⟨bs,0,VX⟩)) 63);rw[hz]at this;exact this
 have aB:=aa (b9 w (Sx Tar 31));go_wp2_with fail;refine(bY bs 1000 _ WQ WQ P1.src).mono ?_;rintro e w2 ⟨id,rfl,Xx,ba,hs,hm⟩;have P2:=P1.read hs hm;clear hs hm P1;have aC:IntKind.u64.wrap id=id:=IntWalk.u64_in _ WQ;have aD:Hid (Str w (w.alloc (Sx Tar 31))):=aa ⟨rfl,rfl,rfl⟩;have Xy:Hid (∀k,k<w.1.size->(w.alloc (Sx Tar 31)).1[k]?=w.1[k]?):=aa fun k hk=>cj _ _ _ hk;generalize hR:w.1.size=R at *;generalize aE:w.alloc _=w0 at *;clear aE
 go_wp2_with fail;refine(bY bs 50 _ WQ WQ P2.src).mono ?_;rintro e w3 ⟨seq,rfl,Xz,be,hs,hm⟩;have P3:=P2.read hs hm;clear hs hm P2;have P4:=P3.below (ae w3 (Sx #[Bm Sj 1,Bm Sj 2,Bm Sj 4,Bm Sj 8,Bm Sj 16] 3));have UF:Hid (ig (w3.alloc (Sx #[Bm Sj 1,Bm Sj 2,Bm Sj 4,Bm Sj 8,Bm Sj 16] 3)) w3.1.size 0 [1,2,4,8,16]):=aa (mo w3 _ [1,2,4,8,16]);have hb3:=aq P3.blk;go_wp2_with fail;refine(jD bs w3.1.size 5 [1,2,4,8,16] XN XN XN WQ XN WQ UF.o P4.src).mono ?_;rintro e w5 ⟨ext,rfl,ag,hs,hm⟩;have P5:=P4.read hs hm;clear hs hm P3 P4 UF hb3;go_wp2_with fail;refine(qY bs _ P5.src).mono ?_;rintro e w6 ⟨tv,tags,rfl,zq,ew,hs,hm⟩;have XA:=ew;obtain⟨tp,tc,Qd,_⟩:=XA;obtain rfl:tv=FG tp tags.length tc:=by injection Qd
 clear Qd;have P6:=P5.read hs hm;have hb5:=aq P5.blk;have D1:=P6.dst (id:=id) (seq:=seq) (ext:=ext) (tags:=tags) (tv:=FG tp tags.length tc) ((ck.moves aF.moves).mv ⟨bk _,fun b _ q=>⟨by have:w5.1.size<=b:=q;omega,rfl⟩⟩ ew);have qL:=cr P6.blk;have y1:=qL 1 _ lX;have y2:=qL 2 _ lX;have y3:=qL 3 _ lX;have y4:=qL 4 _ lX;have y5:=qL 5 _ lX;have y6:=qL 6 _ lX;have y7:=qL 7 _ lX;have y8:=qL 8 _ lX;have y9:=qL 9 _ lX;have yf:=sr P6.blk;clear qL hs hm P5 ew;have am:=aa D1;clear D1;replace P6:=aa P6;replace zq:=aa zq;replace ag:=aa ag;go_wp2_with fail;have D1:vy bs (R+1) id seq ext tags w0 (FG tp tags.length tc) (FG VX 0 0) (FG VX 0 0) [] [] (AF (AF (AF (AF (AF (AF (AF (AF (AF w6 ⟨R+1,1,VX⟩ (By ⟨#[118,103]⟩)) ⟨R+1,2,VX⟩ (Bm U8 id)) ⟨R+1,3,VX⟩ (Bm Sj seq)) ⟨R+1,4,VX⟩ (Bm Sj ext)) ⟨R+1,5,VX⟩ (Bm Sj 0)) ⟨R+1,6,VX⟩ (FG tp tags.length tc)) ⟨R+1,7,VX⟩ (FG VX 0 0)) ⟨R+1,8,VX⟩ (FG VX 0 0)) ⟨R+1,9,VX⟩ (FG VX 0 0)):=am.o;generalize aG:(AF (AF (AF (AF (AF (AF (AF (AF (AF w6 ⟨R+1,1,VX⟩ (By ⟨#[118,103]⟩)) ⟨R+1,2,VX⟩ (Bm U8 id)) ⟨R+1,3,VX⟩ (Bm Sj seq)) ⟨R+1,4,VX⟩ (Bm Sj ext)) ⟨R+1,5,VX⟩ (Bm Sj 0)) ⟨R+1,6,VX⟩ (FG tp tags.length tc)) ⟨R+1,7,VX⟩ (FG VX 0 0)) ⟨R+1,8,VX⟩ (FG VX 0 0)) ⟨R+1,9,VX⟩ (FG VX 0 0))=W7 at *;clear aG am P6 y1 y2 y3 y4 y5 y6 y7 y8 y9 yf hb5 aC;refine(bO bs 1 4 _ WQ WQ WQ D1.src).mono ?_;rintro e w8 ⟨Zh,rfl,bf,bg,hs,hm⟩;have D2:=D1.read hs hm;clear hs hm D1;obtain⟨nd,rfl⟩:∃u:Nat,Zh=u:=⟨Zh.toNat,WQ⟩;have bh:=D2.Gj;go_wp2
 go_loopw[5] (fun i wr=>∃(c:Nat) (dv nv:zY) (Gb:wy az),c+Gb.length=nd/\i=Bm Sj c/\(∀(k:Nat) (D:az),Gb[k]?=Vv D->rH k D)/\vy bs (R+1) id seq ext tags w0 (FG tp tags.length tc) dv nv Gb (DE Gb.length 0) wr) (fun i _=>(intOf i).toNat)
 exact⟨nd,_,_,[],XN,rfl,(fun k D hD=>by simp at hD),D2⟩;obtain⟨c,dv,nv,Gb,Xu,rfl,hdk,D⟩:=hrel;replace hdk:=aa hdk;by_cases hc0:c=0
 ·subst hc0;have aI:V7 ((0:Int)<((0:Nat):Int))=VN:=by simp
  have CD:Gb.length=nd:=by omega
  have a9:eW (fun k=>k=wr.1.size) (wr.alloc (Sx TaD 9)) bs (R+1) nv (FG VX 0 0) ⟨vgT,id,seq,ext,0,tags,Gb,[],[]⟩ (DE Gb.length 0):=D.bld.fresh (ae _ _) (fun k hk=>.inr ⟨WQ,ZY⟩);have a5:∀k,k<R+1->k≠bs->(wr.alloc (Sx TaD 9)).1[k]?=w0.1[k]?:=fun k h1 h2=>(cj _ _ _ (by have:=D.Gj;omega)).trans (D.old k h1 h2);have HNB:=aa (b9 wr (Sx TaD 9));replace a5:=aa a5;have aj:Str w0 (wr.alloc (Sx TaD 9)):=D.str.trans ⟨rfl,rfl,rfl⟩;replace aj:=aa aj;have hlt2:=D.lt;clear D
  go_wp2_with fail;generalize aJ:wr.alloc _=wA at *;generalize aK:wr.1.size=NB at *;clear aJ aK;refine(bY bs 5 _ WQ WQ a9.src).mono ?_;rintro e ao ⟨cv,rfl,aL,aM,hs,hm⟩;obtain⟨c0,rfl⟩:∃u:Nat,cv=u:=⟨cv.toNat,WQ⟩;have au:aH (fun k=>k=NB) bs (R+1) nv (FG VX 0 0) wA ao nv (FG VX 0 0) ⟨vgT,id,seq,ext,0,tags,Gb,[],[]⟩ (DE Gb.length 0):=a9.readPost hs hm;clear hs hm
  have aP:1<=ext/\ext<=16:=by
   have:=ag.o;simp only[dr,cY,dg]at this;omega
  generalize ab:(⟨vgT,id,seq,ext,0,tags,Gb,[],[]⟩:af)=g0 at *;have a7:g0.Gb=Gb/\g0.Gd=ext/\g0.F9=[]/\g0.next=0:=by rw[<- ab];exact⟨rfl,rfl,rfl,rfl⟩
  have XB:=aa ab;clear ab;have av:DOk g0.Gb (DE Gb.length 0):=by
   rw[a7.1];refine⟨XN,WQ,WQ,fun D hD=>?_,fun d m hm=>?_⟩
   ·obtain⟨k,hk⟩:=fc hD;have:=(hdk.o k D hk).ext;simp only[dr,cY,dg]at this;omega
   have:=ct hm;rw[tM]at this;omega
  have aQ:Hid (∀(i:Nat) (g:af) (next:PI),bZ c0 g0 (DE Gb.length 0) i g next->Zy c0 i g0 g next):=aa fun i g next q=>bZ.bd ⟨a7.2.2.1,a7.2.2.2⟩ (by rw[a7.2.1];exact aP) av q;replace a7:=aa a7;clear av
  go_wp2;go_loopw[8] (fun i wr=>∃(c:Nat) (nv' pA:zY) (g:af) (next:PI),i=Bm Sj c/\bZ c0 g0 (DE Gb.length 0) c g next/\aH (fun k=>k=NB) bs (R+1) nv (FG VX 0 0) wA wr nv' pA g next) (fun i _=>(intOf i).toNat)
  exact⟨c0,_,_,_,_,rfl,.nil,au⟩;obtain⟨c,nv',pA,g,next,rfl,ye,P⟩:=hrel;have bd:=aQ.o c g next ye;obtain⟨s1,s2,s3,gx,s5,gd,s7⟩:=bd.same;clear s1 s2 s3 s5 s7;have b1:=bd.le;have b2:=bd.F9;have b3:=bd.nx1;have b4:=bd.nx2;have S7:DOk g.Gb next:=by rw[gd];exact bd.dk
  have hk:BOk g next:=⟨S7,b3,WQ,WQ⟩;have K2:Wq g.Gb=nd:=by rw[gd,a7.o.1];exact CD
  have TU:g.Gd=ext:=by rw[gx];exact a7.o.2.1
  clear bd gx gd;replace ye:=aa ye;have XC:wr.1[NB]?=Vv (Sx TaD 9 (0,0)):=(P.loc a9 lX).trans HNB.o;by_cases hc0:c=0
  ·subst hc0;have hd1:V7 ((0:Int)<((0:Nat):Int))=VN:=by simp
   obtain⟨aR,aS,H⟩:=(P.bld.fewer (Y:=fun _=>False) (fun _ f=>f.elim)).hst (w0:=w0) (fun k h1 h2=>(P.mod.block k (by have:=a9.Gj;omega) (fun q=>by rcases q with q|q|q|q;exact h2 q;omega;have:=(a9.nLt q).1;omega;cases q)).trans (a5.o k h1 h2)) (aj.o.trans P.mod.str);clear XC P au K2 TU;go_wp2_with fail;refine(bY bs 3 _ WQ WQ H.src).mono ?_;rintro e bi ⟨aw,rfl,hh1,Zj,hs,hm⟩;obtain⟨hc,rfl⟩:∃u:Nat,aw=u:=⟨aw.toNat,WQ⟩;have H2:=H.read hs hm;clear hs hm H;go_wp2
   go_loopw[11] (fun i wr=>∃(c:Nat) (hv:zY) (hist:wy (H6 × H5)),c+hist.length=hc/\i=Bm Sj c/\(∀x∈hist,∃i:Nat,1<=i/\i<=2/\x=(BQ,(i:Int),(i:Int)))/\HSt bs (R+1) w0 g aR aS pA nv' hv hist wr) (fun i _=>(intOf i).toNat)
   exact⟨hc,_,[],XN,rfl,(fun x hx=>by cases hx),H2⟩;obtain⟨c,hv,hist,bj,rfl,Zk,H⟩:=hrel;replace Zk:=aa Zk;by_cases hc0:c=0
   ·subst hc0;have aT:V7 ((0:Int)<((0:Nat):Int))=VN:=by simp
    obtain⟨p1,a1,f1,_⟩:=UR H.rt;obtain rfl:=IF.1 f1;obtain⟨p2,a2,f2,_⟩:=UR H.rd;obtain rfl:=IF.1 f2;obtain⟨p3,a3,f3,_⟩:=UR H.rv;obtain rfl:=IF.1 f3;have ah:ck lF 3 (fun b=>R+1<b) wr [hv] hist:=H.own.rd lF.moves YR (fun b _ q=>q.1) (fun b e=>(H.hLt e).1);obtain⟨p4,a4,f4,_⟩:=UR ah;obtain rfl:=IF.1 f4;clear f1 f2 f3 f4;have qL:=cr H.blk;have y1:=qL 1 _ lX;have y2:=qL 2 _ lX;have y3:=qL 3 _ lX;have y4:=qL 4 _ lX;have y5:=qL 5 _ lX;have y6:=qL 6 _ lX;have y7:=qL 7 _ lX;have y8:=qL 8 _ lX;have y9:=qL 9 _ lX;have hlt3:=H.lt;have XD:wr.1[R]?=_:=(H.old R WQ WQ).trans aB.o;have rL:=cr XD;obtain⟨r0,r1,r2,r3,r4,r5,r6,r7,r8⟩:=xr rL;have rf:=sr XD;clear qL rL XD;have HH:=aa H;clear H;replace ah:=aa ah;go_wp2;refine eC (v:=Tk #[g.name,Bm U8 g.id,Bm Sj g.seq,Bm Sj g.Gd,Bm Sj g.next,FG p1 (Wq g.tags) a1,FG p2 (Wq g.Gb) a2,FG p3 (Wq g.F9) a3,FG p4 hist.length a4]) (by simp[results,Tryz.results5,go_sem,r0,r1,r2,r3,r4,r5,r6,r7,r8]) lX ?_;have kk:=fun k (e:k≠R)=>nY (b:=R) (k:=k) e [By g.name,Bm U8 g.id,Bm Sj g.seq,Bm Sj g.Gd,Bm Sj g.next,FG p1 (Wq g.tags) a1,FG p2 (Wq g.Gb) a2,FG p3 (Wq g.F9) a3,FG p4 hist.length a4] wr 0;have hst:=ql R [By g.name,Bm U8 g.id,Bm Sj g.seq,Bm Sj g.Gd,Bm Sj g.next,FG p1 (Wq g.tags) a1,FG p2 (Wq g.Gb) a2,FG p3 (Wq g.F9) a3,FG p4 hist.length a4] wr 0;have hz:=og R [By g.name,Bm U8 g.id,Bm Sj g.seq,Bm Sj g.Gd,Bm Sj g.next,FG p1 (Wq g.tags) a1,FG p2 (Wq g.Gb) a2,FG p3 (Wq g.F9) a3,FG p4 hist.length a4] wr 0;show uX bs w _ (setN wr R 0 [By g.name,Bm U8 g.id,Bm Sj g.seq,Bm Sj g.Gd,Bm Sj g.next,FG p1 (Wq g.tags) a1,FG p2 (Wq g.Gb) a2,FG p3 (Wq g.F9) a3,FG p4 hist.length a4]);generalize setN wr R 0 [By g.name,Bm U8 g.id,Bm Sj g.seq,Bm Sj g.Gd,Bm Sj g.next,FG p1 (Wq g.tags) a1,FG p2 (Wq g.Gb) a2,FG p3 (Wq g.F9) a3,FG p4 hist.length a4]=V at *;have H:=HH.o;have hbl:=H.Gj;have hm:Mv (okH (R+1) (FG p4 hist.length a4)) (fun b=>w.1.size<=b) wr V:=⟨WQ,fun b _ q=>⟨by have:=q.1;omega,kk b (by have:=q.1;omega)⟩⟩;have hm':Mv (fun b=>R+1<b) (fun b=>w.1.size<=b) wr V:=⟨WQ,fun b _ q=>⟨WQ,kk b WQ⟩⟩;have ab:=XB.o;subst ab;refine⟨{ g with history:=hist },_,_,_,_,rfl,⟨_,_,_,_,rfl,(ck.moves aF.moves).mv hm H.rt,(ck.moves aO.moves).mv hm H.rd,(ck.moves aN.moves).mv hm H.rv,(ck.moves lF.moves).mv hm' ah.o⟩,⟨c0,_,g,next,WQ,rfl,⟨Xx,Tdf⟩,⟨Xz,Tdf⟩,ag.o,rfl,zq.o,rfl,rfl,⟨Tdf,Tdf⟩,hdk.o,ye.o,rfl,Tdf,Zk.o⟩,H.src.keep fun i hi=>kk i WQ,(aD.o.trans H.str).trans hst,WQ,fun k h1 h2=>?_⟩
    rw[kk k WQ,H.old k WQ h2];exact Xy.o k WQ
   have aT:V7 ((0:Int)<(c:Int))=VR:=by simp;omega
   go_upto_region 25 with(fail);refine wG H WQ WQ (aa ?_);intro aU bl u163 u164 u165 u166 u167 u168 u169 u170 u171 u172 u173 u174 u175 u176 u177 H3;clear H;replace H3:=aa H3;go_wp2;go_roundw
   case rel =>
    refine⟨c-1,aU,hist++[(BQ,(c:Int),(c:Int))],ZY,Tdn,fun x hx=>?_,H3.o⟩;rcases AS.1 hx with q|q
    ·exact Zk.o x q
    exact⟨c,WQ,WQ,by simpa using q⟩
   simp[intOf];omega
  have hd1:V7 ((0:Int)<(c:Int))=VR:=by simp;omega
  have z1:(0:Int)<=(c:Int):=by omega
  have z2:(c:Int)<5:=by omega
  have aV:wr.cell? (NB,c)=Vv (By (letter c)):=by
   simp only[AN,XC];rcases(show c=1\/c=2\/c=3\/c=4 by omega)with rfl|rfl|rfl|rfl<;>rfl
  clear XC;go_wp2_with fail;refine(bY bs 8 _ WQ WQ P.bld.src).mono ?_;rintro e ai ⟨kv,rfl,Xo,Xp,hs,hm⟩;obtain⟨k,rfl⟩:∃u:Nat,kv=u:=⟨kv.toNat,WQ⟩;have P2:=P.read hs hm;clear hs hm P aV
  by_cases hk3:k<3
  ·have hd2:V7 ((k:Int)<3)=VR:=by simp;omega
   obtain⟨dp,ir,c7,l1,l2⟩:=P2.bld.c7;rw[K2]at c7 l1;go_wp2_with fail;refine(bY bs (nd:Int) _ WQ WQ P2.bld.src).mono ?_;rintro e ay ⟨Zm,rfl,aW,aX,hs,hm⟩;obtain⟨dd,rfl⟩:∃u:Nat,Zm=u:=⟨Zm.toNat,WQ⟩;have P3:=P2.read hs hm;clear hs hm P2 c7
   go_wp2_with fail;refine(bO bs 1 4 _ WQ WQ WQ P3.bld.src).mono ?_;rintro e bm ⟨n,rfl,hn1,hn2,hs,hm⟩;have P4:=P3.read hs hm;clear hs hm P3;go_wp2_with fail;refine(qw _ bs (R+1) nv' pA g next P4.bld hk (letter c) VN dd n WQ hn1 WQ).mono ?_;rintro e bp (⟨rfl,Q⟩|⟨on,s,next1,Ds,DB,rfl,Q,hT⟩)
   ·have Q2:=P4.trans Q;clear P4 Q;go_wp2;go_roundw;exact⟨c-1,_,_,_,_,Tdn,ye.o.next WQ (.linF),Q2⟩;exact Ti
   have Q2:=P4.trans Q;clear P4;obtain⟨vb,vc,sb,rfl,a8⟩:=hT;have aY:BOk { g with next:=g.next+1,F9:=g.F9++[eD (letter c) (oX g.id (g.next+1)) VN n on s] } next1:=⟨DB.ok S7,Tdf,Tdf,ZY⟩
   replace DB:=aa DB;go_upto_region 19 with(fail);refine wN Q.bld aY lX rfl ⟨hn1,hn2⟩ a8 (fun _ _ _ _ _ h=>h) (aa ?_);intro Gf ps aA bu u122 u123 u124 u125 u126 u127 u128 u129 u130 u131 u132 u133 u134 u135 u136 u137 u138 u139 u140 u141 u142 u143 u144 u145 u146 u147 u148 u149 u150 Xw GF XF zq Q3;have Q4:=Q2.trans Q3;clear Q Q2 Q3 a8;go_wp2;go_roundw;exact⟨c-1,_,_,_,_,Tdn,ye.o.next WQ (.lin ⟨hn1,hn2⟩ DB.o Xw GF XF zq),Q4⟩;exact Ti
  have hd2:V7 ((k:Int)<3)=VN:=by simp;omega
  by_cases hk33:k=3
  ·subst hk33;go_wp2_with fail;refine(vX bs (R+1) nv' pA g next P2.bld hk (letter c)).mono ?_;rintro e ay ⟨rfl,Q⟩;have HQ:=aa Q;clear Q;go_wp2;go_roundw
   case rel =>
    rcases HQ.o with⟨ps,next1,DB,Q⟩|⟨k,n,al,next1,Ds,q1,q2,q3,q4,q5,q6,DB,Q⟩
    ·exact⟨c-1,_,_,_,_,Tdn,ye.o.next WQ (.strF DB),P2.trans Q⟩
    exact⟨c-1,_,_,_,_,Tdn,ye.o.next WQ (.str ⟨q1,q2⟩ ⟨q3,q4⟩ q5 q6 DB),P2.trans Q⟩
   simp[intOf];omega
  have bw:((k:Int)==3)=VN:=by simp;omega
  obtain⟨j,rfl⟩:∃j:Nat,k=j+4:=⟨k-4,WQ⟩
  obtain⟨kind,UK,AK⟩:∃kind:Int,([3,4,5,7]:PI)[j]?=Vv kind/\(kind=3\/kind=4\/kind=5\/kind=7):=by
   rcases(show j=0\/j=1\/j=2\/j=3 by omega)with rfl|rfl|rfl|rfl
   ·exact⟨3,rfl,WQ⟩
   ·exact⟨4,rfl,WQ⟩
   ·exact⟨5,rfl,WQ⟩
   exact⟨7,rfl,WQ⟩
  have QO:(ai.alloc (Sx #[Bm Sj 3,Bm Sj 4,Bm Sj 5,Bm Sj 7] 3)).cell? (ai.1.size,j)=Vv (Bm Sj kind):=by have q:=mo ai 3 [3,4,5,7] j kind UK;simpa using q
  replace UK:=aa UK;have e4:((j+4:Nat):Int)-4=(j:Int):=by omega
  have z3:(0:Int)<=(j:Int):=by omega
  have z4:(j:Int)<4:=by omega
  have P3:=P2.after (ae ai (Sx #[Bm Sj 3,Bm Sj 4,Bm Sj 5,Bm Sj 7] 3));clear P2;go_wp2_with fail;refine(vO bs (R+1) nv' pA g next P3.bld hk (letter c) (by show(1:Nat)<=100;omega) kind AK WQ WQ WQ WQ).mono ?_;rintro e ay ⟨rfl,Q⟩;have HQ:=aa Q;clear Q QO;go_wp2;go_roundw
  case rel =>
   rcases HQ.o with⟨j1,GC,Ds,q1,Q⟩|⟨n,names,lengths,x,ps,vl,ro,bz,k1,j1,tl,next1,Ds,q1,q2,q3,q4,q5,q6,q7,q8,q9,Q⟩
   ·exact⟨c-1,_,_,_,_,Tdn,ye.o.next WQ (.compF q1),P3.trans Q⟩
   exact⟨c-1,_,_,_,_,Tdn,ye.o.next WQ (.comp AK ⟨q1,q2⟩ q3 q4 q5 q6 q7 q8 q9),P3.trans Q⟩
  simp[intOf];omega
 have aI:V7 ((0:Int)<(c:Int))=VR:=by simp;omega
 obtain⟨dp,ir,Xt,hd1,hd2⟩:∃p q,dv=FG p Gb.length q/\Gb.length<=q/\q<=9223372036854775807:=by
  obtain⟨p,q,e,h1,h2,_⟩:=D.ownD.rd aO.moves YR (ok':=fun _=>True) (fun _ _ _=>trivial) (fun _ _=>trivial);exact⟨p,q,by injection e,h1,h2⟩
 subst Xt;have aZ:=cr D.blk 7 _ lX;generalize hM:Gb.length=M at *;go_upto_region 8 with(fail);clear aZ;refine yY D hM WQ (fun _ _ _ _ _ h=>h) (aa ?_);intro Xs D' w9 u41 u42 u43 u44 u45 u46 u47 u48 u49 u50 u51 u52 u53 u54 u55 u56 u57 u58 u59 u60 u61 u62 u63 u64 u65 u66 u67 u68 u69 u70 u71 u72 u73 u74 u75 b8 D9;clear D;go_upto_region 9 with(fail);refine yj D9 ZY (aa ?_);intro nv' ao u76 u77 u78 u79 u80 u81 u82 u83 u84 ak;clear D9;replace ak:=aa ak;go_wp2;go_roundw
 case rel =>
  have hle:(Gb++[D']).length=M+1:=by simp[hM]
  refine⟨c-1,Xs,nv',Gb++[D'],WQ,Tdn,fun k E hE=>?_,?_⟩
  ·by_cases hk:k<M
   ·rw[Fo WQ]at hE;exact hdk.o k E hE
   have hk2:k=M:=by have:=(AT.1 hE).1;omega
   subst hk2;rw[<- hM,List.getElem?_concat_length]at hE;injection hE with hE;rw[<- hE];exact b8
  rw[hle,List.replicate_succ'];exact ak.o
 simp[intOf];omega
end Go.Proofs.YtfmbphdjcghfnaaGreatDoor
