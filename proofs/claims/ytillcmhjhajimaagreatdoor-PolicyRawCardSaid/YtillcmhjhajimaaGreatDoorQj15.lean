/- Lemmas: BltN, RnA, RnB, RgA. -/
import Derived.Test.YtillcmhjhajimaaGreatDoorQj14
set_option maxRecDepth 100000
set_option maxHeartbeats 32000000
set_option linter.all false
namespace Go.Proofs.YtillcmhjhajimaaGreatDoor
open Go.Proofs.Tryz
open Go.RowKit
variable {i c:Nat}{g:af}{n e:Int}{L:List ay}{v:ay}{α:Type}{s:aB}{nm:ByteArray}
structure GInv(c i:Nat)(g:af):Prop where
 le:i<=c
 len:g.F9.length<=8*(c-i)
 nd:(g.F9.map (·.name)).Nodup
 hd:∀v∈g.F9,∃j,i<j/\j<=c/\v.name.data.toList.head?=(letter j).data.toList.head?
 ids:∃ms:List Int,g.F9.map (·.id)=ms.map (oX g.id)/\ms.Pairwise (·<·)/\∀m∈ms,0<m/\m<=g.next
 vgo:∀v∈g.F9,ak6 g.Gd g.F9 v
 us:dA (aA g.F9) false=ag5 g.F9
 n0:0<=g.next
theorem aj5{j:Nat}(hi:i<=4)(hj:j<=4)(h:(letter i).data.toList.head?=(letter j).data.toList.head?):i=j:=by
 rcases(show i=0\/i=1\/i=2\/i=3\/i=4 by omega)with rfl|rfl|rfl|rfl|rfl<;>rcases(show j=0\/j=1\/j=2\/j=3\/j=4 by omega)with rfl|rfl|rfl|rfl|rfl<;>first|rfl|(exfalso;revert h;decide)
theorem bZ.inv{g0:af}{n0:List Int}(hc:c<=4)(h0:g0.F9=[]/\g0.next=0)(he:g0.Gd∈([1,2,4,8,16]:List Int)){next:List Int}(h:bZ c g0 n0 i g next):GInv c i g/\g.Gd=g0.Gd:=by
 induction h with
 |nil=>exact⟨⟨bk _,by simp[h0.1],by simp[h0.1],fun v hv=>(by rw[h0.1]at hv;cases hv),⟨[],by simp[h0.1],List.Pairwise.nil,fun m hm=>by cases hm⟩,fun v hv=>(by rw[h0.1]at hv;cases hv),by rw[h0.1];rfl,TcN⟩,rfl⟩
 |@step i g g' next next' h hs ih =>
  obtain⟨ih,ie⟩:=ih;have hle:=ih.le;have hlen:=ih.len;have hn0:=ih.n0;obtain⟨new,e1,B,hn⟩:=hs.blk (i:=i+1) ⟨TcN,TcN⟩ (by rw[ie];exact he);have hb:=B.len;obtain⟨ms,m1,m2,m3⟩:=ih.ids;obtain⟨ns,k1,k2,k3⟩:=B.ids;have an6:g'.id=g.id/\g'.Gd=g.Gd:=by cases hs<;>exact⟨rfl,rfl⟩
  refine⟨⟨TcN,by rw[e1,cD];omega,?_,fun v hv=>?_,⟨ms++ns,by rw[e1,gl,gl,m1,k1,an6.1],List.pairwise_append.2 ⟨m2,k2,fun a ha b hb=>?_⟩,fun m hm=>?_⟩,fun v hv=>?_,?_,TcN⟩,an6.2.trans ie⟩
  ·rw[e1,gl];refine List.pairwise_append.2 ⟨ih.nd,B.nd,fun a ha b hb e=>?_⟩;obtain⟨u,hu,rfl⟩:=List.mem_map.1 ha;obtain⟨v,hv,rfl⟩:=List.mem_map.1 hb;obtain⟨j,j1,j2,j3⟩:=ih.hd u hu;have:=aj5 TcN TcN (j3.symm.trans ((fj (fun n:ByteArray=>n.data.toList.head?) e).trans (B.hd v hv)));omega
  ·rw[e1]at hv;rcases List.mem_append.1 hv with q|q
   ·obtain⟨j,j1,j2,j3⟩:=ih.hd v q;exact⟨j,TcN,j2,j3⟩
   exact⟨i+1,TcN,TcN,B.hd v q⟩
  ·have:=m3 a ha;have:=k3 b hb;omega
  ·rcases List.mem_append.1 hm with q|q
   ·have:=m3 m q;omega
   have:=k3 m q;omega
  ·rw[e1]at hv ⊢;rw[an6.2];rcases List.mem_append.1 hv with q|q
   ·exact(ih.vgo v q).mono fun u hu=>ju _ hu
   exact(B.vgo v q).mono fun u hu=>P9 _ hu
  rw[e1,ag7,ah3,ah8,ih.us,B.us]
theorem an1{d c:Int}(h1:-1000<d)(h2:d<1000)(hc:d*3037000493=18446744073709551616*c):d=0:=by
 have h3:d*3037000493<=3037000493000:=by clear hc;omega
 have h4:-3037000493000<=d*3037000493:=by clear hc;omega
 rw[hc]at h3 h4;obtain rfl:c=0:=by clear hc;omega
 rw[Int.mul_zero]at hc;clear h3 h4;omega
theorem al9{a m:Int}(hm:0<m/\m<=1000)(hn:0<n/\n<=1000)(h:oX a m=oX a n):m=n:=by
 unfold oX at h;have h2:=Int.emod_eq_emod_iff_emod_sub_eq_zero.1 h;have e:a*2862933555777941757+m*3037000493-(a*2862933555777941757+n*3037000493)=(m-n)*3037000493:=by clear h h2;omega
 rw[e]at h2;obtain⟨c,hc⟩:=Int.dvd_of_emod_eq_zero h2;have:=an1 (d:=m-n) (by clear h h2 hc;omega) (by clear h h2 hc;omega) hc;clear h h2 hc;omega
theorem af4:∀ {L:List ay} {u:ay},(L.map (·.name)).Nodup->u∈L->aM L u.name=some u
 |[],_,_,h=>by cases h
 |x :: L,u,hn,h=>by
  rw[iu,List.nodup_cons]at hn;unfold aM;rw[List.find?_cons];rcases List.mem_cons.1 h with rfl|q
  ·simp
  have:decide (x.name=u.name)=false:=cN fun e=>hn.1 (e ▸ List.mem_map.2 ⟨u,q,rfl⟩)
  rw[this];exact af4 hn.2 q
theorem aj0(hn:(L.map (·.name)).Nodup){u:ay}(hu:u∈L)(hv:v∈L)(e:u.name=v.name):u=v:=by
 have h1:=af4 hn hu;rw[e,af4 hn hv]at h1;exact(gj h1).symm
theorem ag1{f:ay->Int}:∀ {l:List ay},(∀v∈l,f v=0)->(iM f l).2=0
 |[],_=>rfl
 |v :: l,h=>by
  unfold iM;rw[aw (h v (cG ..))];exact ag1 fun x hx=>h x (kn _ hx)
theorem ag0{nm:α->ByteArray}{f:Nat->α->Int}:∀ {l:List α} {k:Nat},(∀j x,l[j]?=some x->f (k+j) x=0)->(gZ nm f k l).2=0
 |[],_,_=>rfl
 |x :: l,k,h=>by
  unfold gZ;have h0:f k x=0:=h 0 x rfl;rw[aw h0];exact ag0 fun j y hy=>by
   have:=h (j+1) y hy;rwa[show k+(j+1)=k+1+j by omega]at this
theorem ae9{E:List (ay × aB)->ay->aB->Int}:∀ {post pre:List (ay × aB)},(∀a v s b,post=a++(v,s) :: b->E (pre++a) v s=0)->(bD E pre post).2=0
 |[],_,_=>rfl
 |(v,s) :: post,pre,h=>by
  unfold bD;have h0:=h [] v s post rfl;rw[eM]at h0;rw[aw h0];refine ae9 fun a v' s' b e=>?_;have:=h ((v,s) :: a) v' s' b (by rw[e];rfl)
  rwa[List.append_cons]at this
theorem ai0:∀ {l:List (ByteArray × Int)},(∀x∈l,x.2=0)->(oW l).2=0
 |[],_=>rfl
 |r :: l,h=>by
  unfold oW;rw[aw (h r (cG ..))];exact ai0 fun x hx=>h x (kn _ hx)
theorem al6{l:List α}{x:α}(h:l[i]?=some x):l=l.take i++x :: l.drop (i+1):=by
 obtain⟨hi,e⟩:=List.getElem?_eq_some_iff.1 h;rw[<- e,<- tB hi,rk]
theorem ai1{a b:ByteArray}(h:a≠b):(a.toList==b.toList)=false:=by
 rw[A6,A6];simp only[beq_eq_false_iff_ne,ne_eq];exact fun e=>h (ByteArray.ext (Array.toList_inj.1 e))
theorem aj6(G:GInv c i g)(hc:c<=4)(hnx:g.next<=1000):(dJ g).2=0:=by
 refine ag0 fun j v hj=>?_;rw[eJ];have hv:=ct hj;have V:=G.vgo v hv;have hs:=al6 hj
 have h1:(g.F9.take j).any (fC v)=false:=by
  rw[List.any_eq_false];intro x hx;have n1:=G.nd;rw[hs,gl,iu]at n1;have n2:=(List.pairwise_append.1 n1).2.2 x.name (List.mem_map.2 ⟨x,hx,rfl⟩) v.name (cG ..);obtain⟨ms,m1,m2,m3⟩:=G.ids;have i1:(g.F9.map (·.id)).Pairwise (·≠·):=by
   rw[m1];refine List.pairwise_map.2 (m2.imp_of_mem fun {a b} ha hb hab e=>?_);have ha':=m3 a ha;have hb':=m3 b hb;have:=al9 ⟨ha'.1,TcN⟩ ⟨hb'.1,TcN⟩ e;omega
  rw[hs,gl,iu]at i1;have i2:=(List.pairwise_append.1 i1).2.2 x.id (List.mem_map.2 ⟨x,hx,rfl⟩) v.id (cG ..);simp[fC,ai1 n2,i2]
 simp[yH,V.nm,h1,V.sl,V.tg]
def OnD(g:af)(s:aB)(a:aR):Prop:=∃D,bH g.Gb a.on=some D/\0<=a.start/\1<=aX s/\a.start+aX s<=D.Gc
theorem TeL{p:Prop}(h:p:=by unfold aK;rw[aw ho];exact List.mem_map.2 ⟨a,ha,rfl⟩):p:=h
theorem sU.onD(h:sU g):∀v∈g.F9,∀s∈v.Gf,fP s->∀a∈s.Ga,OnD g s a:=fun v hv s hs ho a ha=>by
 have hm:(a.on,a.start,aX s)∈triples g.F9:=List.mem_map.2 ⟨aJ v.name s a,List.mem_flatMap.2 ⟨v,hv,List.mem_flatMap.2 ⟨s,hs,TeL⟩⟩,rfl⟩;obtain⟨D,hD,e1,e2,e3,e4⟩:=h.apart.1.on _ hm;obtain⟨k,hk⟩:=fc hD;have:=h.tame.dfind k D hk;rw[e1]at this;exact⟨D,this,e2,e3,e4⟩
theorem ai4{v':ay}{s':aB}(h1:v.name=v'.name)(h2:s.kind=s'.kind)(h3:s.Ga=s'.Ga)(h4:s.log=s'.log):jS v s=jS v' s':=by
 unfold jS vU;rw[h1,h2,h3,h4]
theorem af6.kd(h:af6 s):s.kind=1\/s.kind=2\/s.kind=8\/s.kind=9\/s.kind=10:=by
 rcases h.hk with(q|q|q)|q|q<;>omega
theorem ak0(hnd:(g.F9.map (·.name)).Nodup)(hD:fP s->∀a∈s.Ga,OnD g s a)(h:ah0 g.Gd g.F9 v s):mM g v s=0:=by
 cases h with
 |plain P =>
  have k:=P.kd;have e1:jw g s=true:=by
   unfold jw;rw[P.used true,eh];refine⟨List.all_eq_true.2 fun a ha=>?_,rfl⟩;by_cases ho:fP s
   ·obtain⟨D,d1,_⟩:=hD ho a ha;simp[d1]
   rw[P.h0 ho]at ha
   cases ha
  have e2:s.Ga.all (fI g s)=true:=List.all_eq_true.2 fun a ha=>by
   by_cases ho:fP s
   ·obtain⟨D,d1,d2,d3,d4⟩:=hD ho a ha;unfold aX at d3 d4;simp only[fI,d1,Option.getD_some,tG,eh,fk];right
    omega
   rw[P.h0 ho]at ha
   cases ha
  have e3:jS v s=true:=by
   unfold jS;rw[bh TcN,bh TcN,bh TcN]
  have e4:¬(s.kind=6/\¬eZ ((aM g.F9 s.pool).getD eY)=5):=fun q=>by omega
  simp[mM,e1,e2,e3,e4,P.used false]
 |thin hk ha hl hv j hd hn hp =>
  obtain⟨u,hu,n1,n2⟩:=hp;have hf:=af4 hnd hu;rw[n1]at hf;have u1:dD s true=[s.pool]:=by simp[dD,ha,hl,hk,NE]
  have u2:dD s false=[]:=by simp[dD,ha,hl,NE]
  simp[mM,jw,ha,u1,u2,hf,n2,jS,hk]
 |@comp kind n names lengths hk hR hn i hi UL lk =>
  obtain⟨q,hq,e1,e2,e3,e4,e5,e6,e7,e8⟩:=hR.shape;rw[UL]at hq;have G:=aj2 hi hq;have hf:∀nm∈names,∃u,aM g.F9 nm=some u/\eZ u=1:=fun nm pD=>by
   obtain⟨j,hj⟩:=fc pD;have vt:=(List.getElem?_eq_some_iff.1 hj).1;obtain⟨l,hl⟩:=aj lengths j TcN;obtain⟨u,hu,n1,n2,n3⟩:=lk j nm l hj hl;exact⟨u,n1 ▸ af4 hnd hu,n2⟩
  have hv:∀a∈s.Ga,a.vol=true:=fun a ha=>by
   rw[e3]at ha;obtain⟨b,_,rfl⟩:=List.mem_map.1 ha;rfl
  have h1:jw g s=true:=by
   unfold jw;rw[ah1 hR hk,eh];refine⟨List.all_eq_true.2 fun a ha=>by simp[hv a ha],List.all_eq_true.2 fun nm pD=>?_⟩;obtain⟨u,u1,_⟩:=hf nm pD;simp[u1]
  have h2:s.Ga.all (fI g s)=true:=List.all_eq_true.2 fun a ha=>by simp[fI,hv a ha]
  have h3:jS v s=true:=by
   rw[<- G.nmd];exact ai4 UL (e2.trans e1.symm) e3 e4
  have h4:¬(s.kind=6/\¬eZ ((aM g.F9 s.pool).getD eY)=5):=fun z=>by omega
  have h5:names.any (dh g)=false:=List.any_eq_false.2 fun nm pD=>by
   obtain⟨u,u1,u2⟩:=hf nm pD;simp[dh,u1,u2]
  simp[mM,h1,h2,h3,h4,ah1 hR hk false,h5]
theorem am4{c:Int}(he:e∈([1,2,4,8,16]:List Int))(hn:1<=n/\n<=3)(hc:1<=c/\c<=4):1+((n*e+c-1)/c+64-1)/64<=(1+(1+(n*e+63)/64)/e)*e:=by
 simp only[dr,cY,dg]at he;rcases(show n=1\/n=2\/n=3 by omega)with rfl|rfl|rfl<;>rcases(show c=1\/c=2\/c=3\/c=4 by omega)with rfl|rfl|rfl|rfl<;>rcases he with rfl|rfl|rfl|rfl|rfl<;>decide
theorem am2{k:Nat}(he:e∈([1,2,4,8,16]:List Int))(hn:1<=n/\n<=3)(hk:3<=k/\k<=4):n*((k:Int)-1)/((k:Int)-1)*e+16<=(n+(15+e)/e)*e:=by
 simp only[dr,cY,dg]at he;rcases(show n=1\/n=2\/n=3 by omega)with rfl|rfl|rfl<;>rcases(show k=3\/k=4 by omega)with rfl|rfl<;>rcases he with rfl|rfl|rfl|rfl|rfl<;>decide
theorem TeK{p:Prop}(h:p:=by rcases(show k=3\/k=4 by omega)with rfl|rfl<;>rfl):p:=h
theorem aj3(hnd:(g.F9.map (·.name)).Nodup)(he:g.Gd∈([1,2,4,8,16]:List Int))(h:ah0 g.Gd g.F9 v s):xh g s=0:=by
 suffices hs:CX g s=true by simp[xh,hs]
 cases h with
 |plain P =>
  have k:=P.kd;unfold CX;rw[bh TcN,bh TcN,bh TcN,bh TcN]
 |thin hk=>simp[CX,hk]
 |@comp kind n names lengths hk hR hn i hi UL lk =>
  have hf:∀(j:Nat) (nm:ByteArray) (l:Int),names[j]?=some nm->lengths[j]?=some l->dO g nm=l:=fun j nm l a b=>by
   obtain⟨u,hu,n1,n2,n3⟩:=lk j nm l a b;unfold dO;rw[<- n1,af4 hnd hu];exact n3
  have an9:∀(k:Nat) (a:aR),a∈gB (aI v.name k)->∃j,j<k/\(aI v.name k)[j]?=some a.on:=fun k a ha=>by
   obtain⟨nm,pD,rfl⟩:=List.mem_map.1 ha;obtain⟨j,hj⟩:=fc pD;have:=(List.getElem?_eq_some_iff.1 hj).1;rw[IR]at this;exact⟨j,this,hj⟩
  cases hR with
  |mirror k hk' c hc st hst =>
   have a1:(gB (aI v.name k)).all (fun a=>dO g a.on==n)=true:=List.all_eq_true.2 fun a ha=>by
    obtain⟨j,j1,j2⟩:=an9 k a ha;simp[hf j a.on n j2 (by simp[j1])]
   simp[CX,a1,Fe,NE]
  |mirrorLog k hk' c hc st hst =>
   have a1:(gB (aI v.name k)).all (fun a=>dO g a.on==n)=true:=List.all_eq_true.2 fun a ha=>by
    obtain⟨j,j1,j2⟩:=an9 k a ha;simp[hf j a.on n (by rw[Fo (by rw[IR];exact j1)];exact j2) (by rw[Fo (by simp[j1])];simp[j1])]
   have a2:dO g (v.name++qm)=1+(1+(n*g.Gd+63)/64)/g.Gd:=hf k _ _ (by rw[Cp (by rw[IR];exact bk _),IR,Nat.sub_self];rfl) (by rw[Cp TcO];simp);have a3:=am4 he hn hc;simp only[CX,a1,Fe,BZ,a2,Bool.true_and,tG,fk,ej];right
   exact a3
  |parity k hk' c hc =>
   have a0:MJ (⟨0,n*((k:Int)-1),4,gB (aI v.name k),c,[],es,es,0,0,0⟩:aB) 0=Ex v.name 0:=by
    rcases(show k=3\/k=4 by omega)with rfl|rfl<;>rfl
   have a2:dO g (Ex v.name 0)=n+(15+g.Gd)/g.Gd:=hf 0 _ _ TeK TeK;have a1:(gB (aI v.name k)).all (fun a=>dO g a.on==n+(15+g.Gd)/g.Gd)=true:=List.all_eq_true.2 fun a ha=>by
    obtain⟨j,j1,j2⟩:=an9 k a ha;simp[hf j a.on (n+(15+g.Gd)/g.Gd) j2 (by simp[j1])]
   have a3:=am2 he hn hk';have e1:¬(4:Int)=3:=by omega
   simp only[CX,bh e1,ej,a0,a2,a1,ER,af5,IR,Bool.true_and,fk];exact a3
  |pool l c hl hc =>
   have a1:dO g (v.name++Aj)=n:=hf 1 _ _ rfl rfl;have a0:MJ (⟨0,n,5,gB [v.name++Ab,v.name++Aj],c,[],es,es,0,0,0⟩:aB) 1=v.name++Aj:=rfl;simp[CX,a0,a1]
  |cache l m c hl hm hc =>
   have a1:dO g (v.name++EO)=n:=hf 0 _ _ rfl rfl;have a0:MJ (⟨0,n,7,gB [v.name++EO,v.name++Aj,v.name++Ab],c,[],es,es,0,m,0⟩:aB) 0=v.name++EO:=rfl;simp[CX,a0,a1]
def an3(p q:ByteArray × Int × Int):Prop:=p.1=q.1->p.2.1+p.2.2<=q.2.1
theorem al4{M:List (ByteArray × Int × Int)}{st:Int}(h0:0<=st)(h:∀m∈M,an3 m (nm,st,n)):tV M nm st n=false:=by
 unfold tV;rw[List.any_eq_false];intro j _;unfold NK;rw[Bool.not_eq_true,List.any_eq_false];intro m hm;have:=h m hm;simp only[eh,fk,not_and];intro e1 e2 e3;have:=this e1;dsimp only at this;omega
theorem ai2 :∀ {l:List aR} {M:List (ByteArray × Int × Int)},(M++dC n l).Pairwise an3->(∀a∈l,a.vol=false->0<=a.start)->nP n M l=false
 |[],_,_,_=>rfl
 |a :: l,M,h,h0=>by
  unfold nP;by_cases c:a.vol=true
  ·rw[aw c];refine ai2 ?_ fun b hb=>h0 b (kn _ hb);have e:dC n (a :: l)=dC n l:=by simp[dC,c]
   rwa[e]at h
  rw[bh c];have c':a.vol=false:=by simpa using c
  have e:dC n (a :: l)=(a.on,a.start,n) :: dC n l:=by simp[dC,c']
  rw[e]at h;have h1:=List.pairwise_append.1 h;rw[al4 (h0 a (cG ..) c') fun m hm=>h1.2.2 m hm _ (cG ..)];simp only[pj,fY];refine ai2 ?_ fun b hb=>h0 b (kn _ hb);rw[cV];exact h
theorem ai5:∀ {L:List ay},(∀v∈L,∀s∈v.Gf,dC (aX s) s.Ga=(aK v.name s).map af7)->lU (aA L)=triples L
 |[],_=>rfl
 |v :: L,h=>by
  have e1:aA (v :: L)=v.Gf.map (fun s=>(v,s))++aA L:=rfl;have e2:triples (v :: L)=triples [v]++triples L:=Pi [v] L;have e3:∀a b,lU (a++b)=lU a++lU b:=fun a b=>xt;rw[e1,e2,e3,ai5 fun u hu=>h u (kn _ hu),af2]
  congr 1
  unfold lU;rw[List.flatMap_map];have hv:=h v (cG ..);generalize v.Gf=ss at hv;induction ss with
  |nil=>rfl
  |cons s ss ih =>
   rw[lB,lB,ih fun x hx=>hv x (kn _ hx)];congr 1
   exact hv s (cG ..)
theorem ah0.marks{ext:Int}(h:ah0 ext L v s):dC (aX s) s.Ga=(aK v.name s).map af7:=by
 cases h with
 |plain P =>
  unfold aK;by_cases ho:fP s
  ·have:s.Ga.filter (fun a=>!a.vol)=s.Ga:=List.filter_eq_self.2 fun a ha=>by simp[P.ha a ha]
   rw[aw ho,dC,this,List.map_map];rfl
  rw[bh ho,P.h0 ho];rfl
 |thin hk ha hl hv j hd hn hp =>
  have:¬fP s:=by unfold fP;omega
  rw[af0 this,ha];rfl
 |@comp kind n names lengths hk hR hn i hi UL lk =>
  obtain⟨q,hq,e1,e2,e3,e4,e5,e6,e7,e8⟩:=hR.shape;rw[af0 hR.off,dC,e3];have:(gB q.2.1).filter (fun a=>!a.vol)=[]:=List.filter_eq_nil_iff.2 fun a ha=>by
   obtain⟨b,_,rfl⟩:=List.mem_map.1 ha;simp
  rw[this];rfl
theorem al1:∀ {L:List ay},(∀v∈L,∀s∈v.Gf,s.kind=6->v.Gf=[s])->(((aA L).filter fun p=>decide (p.2.kind=6)).map (·.1.name)).Sublist (L.map (·.name))
 |[],_=>List.Sublist.refl _
 |v :: L,h=>by
  have e1:aA (v :: L)=v.Gf.map (fun s=>(v,s))++aA L:=rfl;have ih:=al1 (L:=L) fun u hu=>h u (kn _ hu);rw[e1,List.filter_append,gl,iu]
  by_cases c:∃s∈v.Gf,s.kind=6
  ·obtain⟨s,hs,k⟩:=c;rw[h v (cG ..) s hs k];simpa[k]using ih
  have:(v.Gf.map (fun s=>(v,s))).filter (fun p=>decide (p.2.kind=6))=[]:=List.filter_eq_nil_iff.2 fun p hp=>by
   obtain⟨s,hs,rfl⟩:=List.mem_map.1 hp;simpa using fun k=>c ⟨s,hs,k⟩
  rw[this];exact ih.cons _
theorem ak2(hnd:(g.F9.map (·.name)).Nodup)(hr:(triples g.F9).Pairwise an3)(hD:∀v∈g.F9,∀s∈v.Gf,fP s->∀a∈s.Ga,OnD g s a)(hS:∀v∈g.F9,∀s∈v.Gf,ah0 g.Gd g.F9 v s):(pE g).2=0:=by
 have h1:(bD CQ [] (aA g.F9)).2=0:=ae9 fun a v s b e=>by
  rw[List.nil_append];have eE:=WF (p:=(v,s)) (L:=g.F9) TdS;rw[<- ai5 fun v hv s hs=>(hS v hv s hs).marks,e]at hr;have e3:lU (a++(v,s) :: b)=(lU a++dC (aX s) s.Ga)++lU b:=by simp[lU]
  rw[e3]at hr;have:=ai2 (List.pairwise_append.1 hr).1 fun x hx hx0=>by
   have S:=hS v eE.1 s eE.2;by_cases ho:fP s
   ·obtain⟨D,_,d,_⟩:=hD v eE.1 s eE.2 ho x hx;exact d
   cases S with
   |plain P=>rw[P.h0 ho]at hx;cases hx
   |thin hk ha=>rw[ha]at hx;cases hx
   |@comp kind n names lengths hk hR =>
    obtain⟨q,hq,e1,e2,e3,_⟩:=hR.shape;rw[e3]at hx;obtain⟨y,_,rfl⟩:=List.mem_map.1 hx;cases hx0
  simp[CQ,this]
 have h2:(bD IW [] (aA g.F9)).2=0:=ae9 fun a v s b e=>by
  rw[List.nil_append];have eE:=WF (p:=(v,s)) (L:=g.F9) TdS;unfold IW;by_cases k:s.kind=6
  ·have hno:(a.any fun p=>decide (p.2.kind=6)&&(decide (p.2.pool=s.pool)&&decide (p.2.device=s.device)))=false:=by
    rw[List.any_eq_false];intro p hp;simp only[eh,fk,not_and];intro k1 k2 k3;have CH:=WF (p:=p) (L:=g.F9) (by rw[e];simp[hp]);have hn6:=(al1 (L:=g.F9) fun v hv s hs k=>by
     cases hS v hv s hs with
     |plain P=>have:=P.kd;omega
     |thin _ _ _ h=>exact h
     |comp hk hR=>obtain⟨q,_,_,e2,_⟩:=hR.shape;omega).nodup hnd
    rw[e,List.filter_append,E1 (by simpa using k),gl,iu]at hn6;refine(List.pairwise_append.1 hn6).2.2 p.1.name (List.mem_map.2 ⟨p,List.mem_filter.2 ⟨hp,by simpa using k1⟩,rfl⟩) v.name (cG ..) ?_;cases hS v eE.1 s eE.2 with
    |plain P=>have:=P.kd;omega
    |comp hk hR=>obtain⟨q,_,_,e2,_⟩:=hR.shape;omega
    |thin _ _ _ _ j hd hn =>
     cases hS _ CH.1 _ CH.2 with
     |plain P=>have:=P.kd;omega
     |comp hk hR=>obtain⟨q,_,_,e2,_⟩:=hR.shape;omega
     |thin _ _ _ _ j' hd' hn' =>
      obtain rfl:j'=j:=by omega
      rw[hn,hn',k2]
   rw[aw k,bh (by rw[hno];simp)]
  rw[bh k]
 unfold pE;rw[aw h1];exact h2
theorem ai9 :∀ {l:List ByteArray},l.Nodup->nm∈l->iJ l nm=1
 |[],_,h=>by cases h
 |a :: l,hn,h=>by
  rw[List.nodup_cons]at hn;unfold iJ;rw[List.countP_cons];by_cases c:a=nm
  ·subst c;have:List.countP (fun x=>decide (x=a)) l=0:=List.countP_eq_zero.2 fun x hx=>by
    simpa using fun e:x=a=>hn.1 (e ▸ hx)
   rw[this];simp
  have ih:=ai9 hn.2 ((List.mem_cons.1 h).resolve_left fun e=>c e.symm);unfold iJ at ih;rw[ih];simp[c]
def ai3(l:List (ay × aB)):List ByteArray:=l.flatMap fun p=>if p.2.kind=6 then [p.2.pool] else []
theorem ai8(nm:ByteArray):∀l:List (ay × aB),iJ (dA l true) nm=iJ (dA l false) nm+iJ (ai3 l) nm
 |[]=>rfl
 |p :: l=>by
  have ih:=ai8 nm l;have e0:∀a b,iJ (a++b) nm=iJ a nm+iJ b nm:=fun a b=>List.countP_append;have e1:∀q,dA (p :: l) q=dD p.2 q++dA l q:=fun q=>rfl;have e2:ai3 (p :: l)=(if p.2.kind=6 then [p.2.pool] else [])++ai3 l:=rfl
  have e3:dD p.2 true=dD p.2 false++(if p.2.kind=6 then [p.2.pool] else []):=by
   unfold dD;by_cases k:p.2.kind=6<;>simp[k]
  rw[e1,e1,e2,e3,e0,e0,e0,e0,ih];omega
theorem ak4(hnd:(g.F9.map (·.name)).Nodup)(hus:dA (aA g.F9) false=ag5 g.F9)(hV:∀v∈g.F9,ak6 g.Gd g.F9 v):(rY g).2=0:=by
 refine ag1 fun v hv=>?_;have ef:∀p,EJ g p=dA (aA g.F9) p:=fun p=>rfl;unfold yt;cases hh:v.hidden with
 |true =>
  have h1:iJ (ag5 g.F9) v.name=1:=ai9 ((List.filter_sublist.map _).nodup hnd) (List.mem_map.2 ⟨v,List.mem_filter.2 ⟨hv,hh⟩,rfl⟩);have h2:iJ (ai3 (aA g.F9)) v.name=0:=List.countP_eq_zero.2 fun x hx=>by
   obtain⟨p,hp,hx⟩:=List.mem_flatMap.1 hx;obtain⟨q1,q2⟩:=WF hp;split at hx
   ·rename_i k;obtain rfl:=List.mem_singleton.1 hx;simp only[fk];intro e;cases (hV _ q1).sg _ q2 with
    |plain P=>have:=P.kd;omega
    |comp hk hR=>obtain⟨q,_,_,e2,_⟩:=hR.shape;omega
    |thin _ _ _ _ j hd hn hp =>
     obtain⟨u,hu,n1,n2⟩:=hp;have:=aj0 hnd hu hv (n1.trans e);subst this;have:=(hV u hu).hk hh;omega
   cases hx
  rw[aw rfl,ef true,ai8,hus,h1,h2];rfl
 |false =>
  have h1:iJ (ag5 g.F9) v.name=0:=List.countP_eq_zero.2 fun x hx=>by
   obtain⟨u,hu,rfl⟩:=List.mem_map.1 hx;obtain⟨u1,u2⟩:=List.mem_filter.1 hu;simp only[fk];intro e;have:=aj0 hnd u1 hv e;subst this;rw[hh]at u2;cases u2
  rw[bh TcO,ef false,hus,h1];rfl
theorem an5:jo vgT=true:=by kernel_rfl
theorem am5:jo BQ=true:=by kernel_rfl
theorem am9(k:Nat)(hk:k<=3):jo (NI++digit k)=true:=by
 rcases(show k=0\/k=1\/k=2\/k=3 by omega)with rfl|rfl|rfl|rfl<;>kernel_rfl
theorem sU.mchk(h:sU g):(mchk g).2=0:=by
 have hap:=h.apart;have hon:=h.onD;obtain⟨c,g0,g1,next,hc,hname,hid,hseq,ah9,hn0,S9,hv0,_,CD,hdk,ye,hg,hhl,ao0⟩:=h.ex;have hex:1<=g0.Gd/\g0.Gd<=16:=by
  simp only[dr,cY,dg]at ah9;omega
 have vu:∀D∈g0.Gb,0<=D.Gc/\D.Gc<=60:=fun D hD=>by
  exact Tcl
 have ND:DOk g0.Gb (List.replicate g0.Gb.length 0):=⟨TcO,TcN,TcN,fun D hD=>by have:=vu D hD;omega,fun d m hm=>by
  have:=ct hm;rw[tM]at this;omega⟩
 have b:=bZ.bd ⟨hv0,hn0⟩ hex ND ye;obtain⟨G,ge⟩:=ye.inv hc ⟨hv0,hn0⟩ ah9;have hb:=b.same;have hnx:=b.nx2;have ao6:=b.nx1;have G':GInv c 0 g:=by
  rw[hg];exact⟨G.le,G.len,G.nd,G.hd,G.ids,G.vgo,G.us,G.n0⟩
 have TU:g.Gd=g0.Gd:=by rw[hg];exact ge
 have hgd:g.Gb=g0.Gb:=by rw[hg];exact hb.2.2.2.2.2.1
 have OH:g.next<=44/\0<=g.next:=by rw[hg];dsimp only;omega
 have K2:=G'.len;have yq:∀v∈g.F9,∀s∈v.Gf,ah0 g.Gd g.F9 v s:=fun v hv=>(G'.vgo v hv).sg;refine ai0 fun x hx=>?_;simp only[dr,cY,dg]at hx;rcases hx with rfl|rfl|rfl|rfl|rfl|rfl|rfl|rfl
 ·have e1:jo g.name=true:=by rw[hg];dsimp only;rw[hb.1,hname];exact an5
  have e2:lm g:=by
   have:g.seq=g0.seq:=by rw[hg];exact hb.2.2.1
   unfold lm;rw[TU,this];omega
  have e3:iR g:=⟨by rw[hgd];omega,TcN,TcN⟩
  have e4:eP g.tags=0:=by
   have:g.tags=g0.tags:=by rw[hg];exact hb.2.2.2.2.1
   rw[this];exact ah7 S9
  have e5:g.history.all lL=true:=List.all_eq_true.2 fun y hy=>by
   obtain⟨i,i1,i2,rfl⟩:=ao0 y hy;simp only[lL,am5,Bool.true_and,fk];omega
  simp[dZ,qX,e1,e2,e3,e4,e5]
 ·refine ag0 fun j D hj=>?_
  rw[eJ];rw[hgd]at hj;have vt:=(List.getElem?_eq_some_iff.1 hj).1;have K:=hdk j D hj;have e1:jo D.name=true:=by rw[K.name];exact am9 j TcN
  have e2:(g.Gb.take j).any (dG D)=false:=by
   rw[List.any_eq_false];intro E hE;rw[hgd]at hE;obtain⟨k,hk⟩:=fc hE;rw[xF]at hk;split at hk
   ·rename_i hkj;have K':=hdk k E hk;have n1:E.name≠D.name:=fun e=>by
     rw[K.name,K'.name]at e;have:=Fq TcN TcN e;omega
    have n2:E.id≠D.id:=fun e=>by rw[K.id,K'.id]at e;omega
    simp[dG,ai1 n1,n2]
   cases hk
  have e3:jQ g D:=by
   have q1:=vu D (ct hj);have q2:=K.first;unfold jQ;rw[TU];simp only[dr,cY,dg]at ah9;rcases ah9 with q|q|q|q|q<;>rw[q]<;>omega
  simp[pg,e1,e2,e3,ah7 K.tags]
 ·exact aj6 G' hc TcN
 ·exact ag1 fun v hv=>(G'.vgo v hv).fm
 ·exact ae9 fun a v s b' e=>by
   have eE:=WF (p:=(v,s)) (L:=g.F9) TdS;exact ak0 G'.nd (hon v eE.1 s eE.2) (yq v eE.1 s eE.2)
 ·exact ae9 fun a v s b' e=>by
   have eE:=WF (p:=(v,s)) (L:=g.F9) TdS;exact aj3 G'.nd (by rw[TU];exact ah9) (yq v eE.1 s eE.2)
 ·exact ak2 G'.nd hap.1.row hon yq
 exact ak4 G'.nd G'.us G'.vgo
open Go.Shelf
variable {p l x:List UInt8}
theorem KH{s:ByteArray}{k:Nat}(h:k<s.size):s.data.toList[k]?=some s[k]:=by
 rw[lO Tdc];rfl
def inL(c:UInt8)(l:List UInt8):Bool:=l.any fun x=>x==c
theorem Lc{a b:UInt8}(h:¬(a.toNat:Int)=(b.toNat:Int)):(a==b)=false:=by
 rw[beq_eq_false_iff_ne];intro e;exact h Tdt
theorem J2(c:UInt8)(s:ByteArray)(w:World)(hs:s.size<=9223372036854775807) :
  Calls prog 144 #[.int .u8 c.toNat,.string s] w fun e w'=>e=.returned (.bool (inL c s.data.toList))/\w=w':=by
 go_enter func144,ntmps144;go_wp2
 go_loop[5] (fun i=>∃k:Nat,k<=s.size/\i=.int .i64 k/\(∀j x,j<k->s.data.toList[j]?=some x->(x==c)=false)) (fun i=>s.size-(intOf i).toNat)
 exact⟨0,cg _,rfl,fun j x hj=>by omega⟩;obtain⟨k,hk,rfl,hno⟩:=hrel;have Ty:=aa hno;clear hno;by_cases hlt:k<s.size
 ·have HC:=aa (KH hlt);by_cases he:(s[k].toNat:Int)=(c.toNat:Int)
  ·have HT:Hid (inL c s.data.toList=true):=aa (by
    unfold inL;rw[nh];exact⟨s[k],ct HC.o,by rw[beq_iff_eq];exact UInt8.toNat_inj.1 TcN⟩)
   have hq:((s[k].toNat:Int)==(c.toNat:Int))=true:=by simpa using he
   clear he;go_wp2;go_ret;exact⟨ah HT.o.symm,rfl⟩
  have HN:Hid (∀j x,j<k+1->s.data.toList[j]?=some x->(x==c)=false):=aa fun j x hj hx=>by
   by_cases hjk:j=k
   ·subst hjk;rw[HC.o]at hx;cases hx
    exact Lc he
   exact Ty.o j x TcN hx
  have hq:((s[k].toNat:Int)==(c.toNat:Int))=false:=by simpa using he
  clear he;go_wp2;go_round;exact⟨k+1,TcN,TcR,HN.o⟩;simp[intOf];omega
 obtain rfl:k=s.size:=by omega
 have HT:Hid (inL c s.data.toList=false):=aa (by
  unfold inL;rw[List.any_eq_false];intro x hx;obtain⟨j,hj⟩:=fc hx;have:=Ty.o j x Tei hj;simp[this])
 go_wp2;go_ret;exact⟨ah HT.o.symm,rfl⟩
def KI(c:Int):Bool:=decide (97<=c)&&decide (c<=122)||decide (65<=c)&&decide (c<=90)||decide (48<=c)&&decide (c<=57)
theorem Kq(c:Int):(KI c=true/\((decide (97<=c)=true/\decide (c<=122)=true)\/(decide (97<=c)=false/\decide (65<=c)=true/\decide (c<=90)=true)\/(decide (97<=c)=false/\decide (65<=c)=false/\decide (48<=c)=true/\decide (c<=57)=true))) \/
  (KI c=false/\((decide (97<=c)=false/\decide (65<=c)=false/\decide (48<=c)=false)\/(decide (97<=c)=false/\decide (65<=c)=false/\decide (48<=c)=true/\decide (c<=57)=false)\/(decide (97<=c)=false/\decide (65<=c)=true/\decide (c<=90)=false/\decide (48<=c)=true/\decide (c<=57)=false)\/(decide (97<=c)=true/\decide (c<=122)=false/\decide (65<=c)=true/\decide (c<=90)=false/\decide (48<=c)=true/\decide (c<=57)=false))):=by
 have hl:KI c=decide ((97<=c/\c<=122)\/(65<=c/\c<=90)\/(48<=c/\c<=57)):=by
  unfold KI;rw[mN];simp only[tG,eh,fk,or_assoc]
 simp only[hl,fk,decide_eq_false_iff_not];omega
def DV(Zt:List UInt8)(c:UInt8):Bool:=KI c.toNat||inL c Zt
def Ht(s Zt bad:ByteArray)(most:Int):Bool:=decide (1<=s.size)&&decide ((s.size:Int)<=most)&&s.data.toList.all (DV Zt.data.toList)&&!inL (s.data.toList.headD 0) bad.data.toList
theorem KN(Q:Exit->Act->World->Prop)(c0 c3 c4 c5 c6 c7 c8 c11 c12 c13 c14 c15 c16 c17 c18 c19 c20 c21 c22 c23 c24 c25 c26 c27 c28 c29 c30 c31 c32 c33 c34 c35 c36 c37 c38 c39 c40 c41 c42 c43 c44 c45 c46 c47 c48 c49 c50 c51 c52 c53 c54 c55 c56 c57 c58 c59 c60 c61 c62 c63 c64 c65 c66:Value)(w:World)(c:UInt8)(Zt bad:ByteArray)(k:Nat)(ho:Zt.size<=100)(hb:bad.size<=100)
  (HK:Hid (∀(u29 u30 u31 u32 u33 u34 u35 u36 u37 u38 u39 u40 u41 u42 u43 u44 u45 u46 u47 u48 u49 u50 u51 u52 u53 u54 u55 u56 u57 u58 u59 u60 u61 u62 u63 u64 u65:Value) (r:Bool),(!(DV Zt.data.toList c)||(decide (k=0)&&inL c bad.data.toList))=r->Q .normal ⟨#[c0,.string Zt,.string bad,c3,c4,c5,c6,c7,c8,.int .i64 (k:Int),.int .u8 (c.toNat:Int),c11,c12,c13,c14,c15,c16,c17,c18,c19,c20,c21,c22,c23,c24,c25,c26,c27,c28,u29,u30,u31,u32,u33,u34,u35,u36,u37,u38,u39,u40,u41,u42,u43,u44,u45,u46,u47,u48,u49,u50,u51,u52,u53,u54,u55,u56,u57,u58,u59,u60,u61,u62,u63,u64,u65,.bool r],[]⟩ w)) :
  (Ai Tryz.f95 7).wp prog Q ⟨#[c0,.string Zt,.string bad,c3,c4,c5,c6,c7,c8,.int .i64 (k:Int),.int .u8 (c.toNat:Int),c11,c12,c13,c14,c15,c16,c17,c18,c19,c20,c21,c22,c23,c24,c25,c26,c27,c28,c29,c30,c31,c32,c33,c34,c35,c36,c37,c38,c39,c40,c41,c42,c43,c44,c45,c46,c47,c48,c49,c50,c51,c52,c53,c54,c55,c56,c57,c58,c59,c60,c61,c62,c63,c64,c65,c66],[]⟩ w:=by
 conv=>arg 2;whnf
 have HQO:=aa (J2 c Zt w TcN);have HQB:=aa (J2 c bad w TcN);obtain⟨h,hx⟩|⟨h,hx⟩:=Kq (c.toNat:Int)
 ·have j9:DV Zt.data.toList c=true:=by unfold DV;rw[h];rfl
  rw[j9]at HK;clear j9 h;by_cases hk:k=0
  ·rw[eA hk]at HK;subst hk;rcases hx with⟨d1,d2⟩|⟨d1,d3,d4⟩|⟨d1,d3,d5,d6⟩<;>(go_wp2_with fail)<;>(refine HQB.o.mono ?_)<;>(rintro e w' ⟨rfl,rfl⟩)<;>go_wp2<;>exact HK.o _ _ _ _ _ _ _ _ _ _ _ _ _ _ _ _ _ _ _ _ _ _ _ _ _ _ _ _ _ _ _ _ _ _ _ _ _ _ rfl
  rw[cN hk]at HK;have hz:((k:Int)==0)=false:=by simpa using hk
  clear hk;rcases hx with⟨d1,d2⟩|⟨d1,d3,d4⟩|⟨d1,d3,d5,d6⟩<;>go_wp2<;>exact HK.o _ _ _ _ _ _ _ _ _ _ _ _ _ _ _ _ _ _ _ _ _ _ _ _ _ _ _ _ _ _ _ _ _ _ _ _ _ _ rfl
 have j9:DV Zt.data.toList c=inL c Zt.data.toList:=by unfold DV;rw[h];rfl
 rw[j9]at HK;clear j9 h;cases hi:inL c Zt.data.toList with
 |false =>
  rw[hi]at HQO HK;clear hi;rcases hx with⟨d1,d3,d5⟩|⟨d1,d3,d5,d6⟩|⟨d1,d3,d4,d5,d6⟩|⟨d1,d2,d3,d4,d5,d6⟩<;>(go_wp2_with fail)<;>(refine HQO.o.mono ?_)<;>(rintro e w' ⟨rfl,rfl⟩)<;>go_wp2<;>exact HK.o _ _ _ _ _ _ _ _ _ _ _ _ _ _ _ _ _ _ _ _ _ _ _ _ _ _ _ _ _ _ _ _ _ _ _ _ _ _ rfl
 |true =>
  rw[hi]at HQO HK;clear hi;by_cases hk:k=0
  ·rw[eA hk]at HK;subst hk;rcases hx with⟨d1,d3,d5⟩|⟨d1,d3,d5,d6⟩|⟨d1,d3,d4,d5,d6⟩|⟨d1,d2,d3,d4,d5,d6⟩<;>(go_wp2_with fail)<;>(refine HQO.o.mono ?_)<;>(rintro e w' ⟨rfl,rfl⟩)<;>(go_wp2_with fail)<;>(refine HQB.o.mono ?_)<;>(rintro e w' ⟨rfl,rfl⟩)<;>go_wp2<;>exact HK.o _ _ _ _ _ _ _ _ _ _ _ _ _ _ _ _ _ _ _ _ _ _ _ _ _ _ _ _ _ _ _ _ _ _ _ _ _ _ rfl
  rw[cN hk]at HK;have hz:((k:Int)==0)=false:=by simpa using hk
  clear hk;rcases hx with⟨d1,d3,d5⟩|⟨d1,d3,d5,d6⟩|⟨d1,d3,d4,d5,d6⟩|⟨d1,d2,d3,d4,d5,d6⟩<;>(go_wp2_with fail)<;>(refine HQO.o.mono ?_)<;>(rintro e w' ⟨rfl,rfl⟩)<;>go_wp2<;>exact HK.o _ _ _ _ _ _ _ _ _ _ _ _ _ _ _ _ _ _ _ _ _ _ _ _ _ _ _ _ _ _ _ _ _ _ _ _ _ _ rfl
theorem G9(s Zt bad:ByteArray)(most:Int)(w:World)(hs:s.size<=9223372036854775807)(ho:Zt.size<=100)(hb:bad.size<=100) :
  Calls prog 95 #[.string s,.string Zt,.string bad,.int .i64 most] w fun e w'=>e=.returned (.bool (Ht s Zt bad most))/\w=w':=by
 have HU:Hid (Ht s Zt bad most=_):=aa (Ht.eq_1 s Zt bad most);go_enter func95,ntmps95
 by_cases h1:(s.size:Int)<1
 ·have hd:decide ((s.size:Int)<1)=true:=eA h1;have HN:Hid (Ht s Zt bad most=false):=aa (by rw[HU.o,cN (show ¬1<=s.size by omega)];rfl);clear h1;go_wp2;go_ret;exact⟨ah HN.o.symm,rfl⟩
 have hd:decide ((s.size:Int)<1)=false:=cN h1;by_cases h2:most<(s.size:Int)
 ·have hd2:decide (most<(s.size:Int))=true:=eA h2;have HN:Hid (Ht s Zt bad most=false):=aa (by rw[HU.o,cN (show ¬(s.size:Int)<=most by omega),Bool.and_false];rfl);clear h1 h2;go_wp2;go_ret;exact⟨ah HN.o.symm,rfl⟩
 have hd2:decide (most<(s.size:Int))=false:=cN h2;have HS1:Hid (1<=s.size):=aa TcN;rw[eA HS1.o,eA (show(s.size:Int)<=most by omega),Bool.true_and,Bool.true_and]at HU;clear h1 h2;go_wp2;clear hd hd2;go_loop[9,10] (fun i _=>∃k:Nat,k<=s.size/\i=.int .i64 k/\(∀j x,j<k->s.data.toList[j]?=some x->DV Zt.data.toList x=true)/\(0<k->inL (s.data.toList.headD 0) bad.data.toList=false)) (fun i _=>s.size-(intOf i).toNat)
 exact⟨0,cg _,rfl,fun j x hj=>by omega,fun h=>absurd h TcN⟩;obtain⟨k,hk,rfl,hall,Nl⟩:=hrel;have HA:=aa hall;clear hall;have HBD:=aa Nl;clear Nl;by_cases hlt:k<s.size
 ·have HC:=aa (KH hlt);have Ty:Hid (DV Zt.data.toList s[k]=false->Ht s Zt bad most=false):=aa fun h=>by
   rw[HU.o,show s.data.toList.all (DV Zt.data.toList)=false by rw[lr];exact⟨s[k],ct HC.o,by simp[h]⟩];rfl
  have HH:Hid (k=0->s[k]=s.data.toList.headD 0):=aa fun h=>by
   subst h;have:=HC.o;generalize s[0]=c at *;cases hl:s.data.toList with
   |nil=>rw[hl]at this;cases this
   |cons a l=>rw[hl]at this;exact(gj this).symm
  have aB2:Hid (DV Zt.data.toList s[k]=true->∀j x,j<k+1->s.data.toList[j]?=some x->DV Zt.data.toList x=true):=aa fun h j x hj hx=>by
   by_cases hjk:j=k
   ·subst hjk;rw[HC.o]at hx;cases hx
    exact h
   exact HA.o j x TcN hx
  clear HC;go_upto_region 7 with(fail);generalize hc:s[k]=c at *;have XH:=aa hc;clear hc;refine KN _ _ _ _ _ _ _ _ _ _ _ _ _ _ _ _ _ _ _ _ _ _ _ _ _ _ _ _ _ _ _ _ _ _ _ _ _ _ _ _ _ _ _ _ _ _ _ _ _ _ _ _ _ _ _ _ _ _ _ _ _ _ _ _ w c Zt bad k ho hb (aa ?_);intro u29 u30 u31 u32 u33 u34 u35 u36 u37 u38 u39 u40 u41 u42 u43 u44 u45 u46 u47 u48 u49 u50 u51 u52 u53 u54 u55 u56 u57 u58 u59 u60 u61 u62 u63 u64 u65 r hr;cases gw:DV Zt.data.toList c with
  |false =>
   obtain rfl:true=r:=by rw[<- hr,gw];rfl
   have HF:=aa (Ty.o gw);clear gw hr;go_wp2;go_ret;exact⟨ah HF.o.symm,rfl⟩
  |true =>
   have HY:=aa (aB2.o gw);by_cases hk0:k=0
   ·have HD:=aa (HH.o hk0);rw[gw,eA hk0]at hr;cases hb2:inL c bad.data.toList with
    |true =>
     obtain rfl:true=r:=by rw[<- hr,hb2];rfl
     have HF:Hid (Ht s Zt bad most=false):=aa (by rw[HU.o,<- HD.o,hb2];exact Bool.and_false _);clear hb2 hk0 gw hr;go_wp2;go_ret;exact⟨ah HF.o.symm,rfl⟩
    |false =>
     obtain rfl:false=r:=by rw[<- hr,hb2];rfl
     have cm:Hid (inL (s.data.toList.headD 0) bad.data.toList=false):=aa (by rw[<- HD.o,hb2]);clear hb2 hk0 gw hr;go_wp2;go_round;exact⟨k+1,TcN,TcR,HY.o,fun _=>cm.o⟩;simp[intOf];omega
   have cm:=aa (HBD.o TcN);obtain rfl:false=r:=by rw[<- hr,gw,cN hk0];rfl
   clear hk0 gw hr;go_wp2;go_round;exact⟨k+1,TcN,TcR,HY.o,fun _=>cm.o⟩;simp[intOf];omega
 obtain rfl:k=s.size:=by omega
 have HT:Hid (Ht s Zt bad most=true):=aa (by
  rw[HU.o,HBD.o HS1.o,Bool.not_false,Bool.and_true,eL];intro x hx;obtain⟨j,hj⟩:=fc hx;exact HA.o j x Tei hj)
 go_wp2;go_ret;exact⟨ah HT.o.symm,rfl⟩
theorem KE:(List.range 256).all (fun n=>(kT vF (UInt8.ofNat n)==DV [95,46,43,45] (UInt8.ofNat n))&&(kT zB (UInt8.ofNat n)==DV [95,46,43,45,47,61,58] (UInt8.ofNat n)))=true:=by kernel_rfl
theorem Jm(c:UInt8):kT vF c=DV [95,46,43,45] c/\kT zB c=DV [95,46,43,45,47,61,58] c:=by
 have h:=List.all_eq_true.1 KE c.toNat (List.mem_range.2 (UInt8.toNat_lt c));rw[UInt8.ofNat_toNat,eh,beq_iff_eq,beq_iff_eq]at h;exact h
theorem JK(a b:UInt8):(a==b)=(a.toNat==b.toNat):=by
 rw[mN,beq_iff_eq,beq_iff_eq,UInt8.toNat_inj]
theorem J9(s:ByteArray):Ht s ⟨#[95,46,43,45]⟩ ⟨#[45,46]⟩ 40=qA s:=by
 unfold Ht qA wS;have h1:s.data.toList.all (DV (⟨#[95,46,43,45]⟩:ByteArray).data.toList)=s.data.toList.all (kT vF):=by
  congr 1
  funext c
  exact(Jm c).1.symm
 have h2:inL (s.data.toList.headD 0) (⟨#[45,46]⟩:ByteArray).data.toList=((lI s).toNat==45||(lI s).toNat==46):=by
  show(((45:UInt8)==lI s)||(((46:UInt8)==lI s)||false))=_;rw[JK,JK,Bool.or_false];congr 1<;>(rw[mN,beq_iff_eq,beq_iff_eq];exact⟨fun h=>h.symm,fun h=>h.symm⟩)
 rw[h1,h2];have h3:decide (1<=s.size)=decide (0<s.size):=rfl;have h4:decide ((s.size:Int)<=40)=decide (s.size<=40):=decide_eq_decide.2 TcN;rw[h3,h4];cases (lI s).toNat==45<;>cases (lI s).toNat==46<;>cases s.data.toList.all (kT vF)<;>simp
theorem KM(s:ByteArray):Ht s ⟨#[95,46,43,45,47,61,58]⟩ ⟨#[45]⟩ 24=mr s:=by
 unfold Ht mr wS;have h1:s.data.toList.all (DV (⟨#[95,46,43,45,47,61,58]⟩:ByteArray).data.toList)=s.data.toList.all (kT zB):=by
  congr 1
  funext c
  exact(Jm c).2.symm
 have h2:inL (s.data.toList.headD 0) (⟨#[45]⟩:ByteArray).data.toList=((lI s).toNat==45):=by
  show(((45:UInt8)==lI s)||false)=_;rw[JK,Bool.or_false];rw[mN,beq_iff_eq,beq_iff_eq];exact⟨fun h=>h.symm,fun h=>h.symm⟩
 rw[h1,h2];have h3:decide (1<=s.size)=decide (0<s.size):=rfl;have h4:decide ((s.size:Int)<=24)=decide (s.size<=24):=decide_eq_decide.2 TcN;rw[h3,h4];cases (lI s).toNat==45<;>cases s.data.toList.all (kT zB)<;>simp
theorem Tb6{p:Prop}(h:p:=by
 go_wp2_with fail;refine HC.o.mono ?_;rintro e w' ⟨rfl,rfl⟩;go_wp2;go_ret;exact⟨rfl,rfl⟩):p:=h
theorem J6(s:ByteArray)(w:World)(hs:s.size<=9223372036854775807) :
  Calls prog 170 #[.string s] w fun e w'=>e=.returned (.bool (qA s))/\w=w':=by
 have HC:=aa (G9 s ⟨#[95,46,43,45]⟩ ⟨#[45,46]⟩ 40 w hs TcQ TcQ);rw[J9]at HC;go_enter func170,ntmps170
 exact Tb6
theorem Jz(s:ByteArray)(w:World)(hs:s.size<=9223372036854775807) :
  Calls prog 48 #[.string s] w fun e w'=>e=.returned (.bool (mr s))/\w=w':=by
 have HC:=aa (G9 s ⟨#[95,46,43,45,47,61,58]⟩ ⟨#[45]⟩ 24 w hs TcQ TcQ);rw[KM]at HC;go_enter func48,ntmps48
 exact Tb6
def JL:List (List UInt8):=[[95,108,101,103,48],[95,108,101,103,49],[95,108,101,103,50],[95,108,101,103,51],[95,108,101,103,52],[95,108,101,103,53],[95,108,101,103,54],[95,108,101,103,55]]
def IM:List (List UInt8):=nV++JL
def KW(l:List UInt8):Option (List UInt8):=(IM.find? fun p=>Lib.hasSuffix l p).map fun p=>l.take (l.length-p.length)
theorem Jy(h:p∈JL):∃d:UInt8,p=xg++[d]/\48<=d.toNat/\d.toNat<=55:=by
 simp only[JL,dr,cY,dg]at h;rcases h with rfl|rfl|rfl|rfl|rfl|rfl|rfl|rfl<;>exact⟨_,rfl,TcQ,TcQ⟩
theorem KR{d:UInt8}(h1:48<=d.toNat)(h2:d.toNat<=55):xg++[d]∈JL:=by
 have h:(List.range 256).all (fun n=>!(decide (48<=n)&&decide (n<=55))||JL.contains (xg++[UInt8.ofNat n]))=true:=by kernel_rfl
 have:=List.all_eq_true.1 h d.toNat (List.mem_range.2 (UInt8.toNat_lt d));rw[UInt8.ofNat_toNat,eA h1,eA h2]at this;simpa using this
theorem Jh(a b:List UInt8)(d x:UInt8):Lib.hasSuffix (b++[x]) (a++[d])=true↔d=x/\Lib.hasSuffix b a=true:=by
 show(a++[d]).isSuffixOf (b++[x])=true↔d=x/\a.isSuffixOf b=true;rw[List.isSuffixOf_iff_suffix,List.isSuffixOf_iff_suffix];constructor
 ·rintro⟨t,ht⟩;rw[<- cV]at ht;obtain⟨h1,h2⟩:=List.append_inj' ht rfl;exact⟨by simpa using h2,t,h1⟩
 rintro⟨rfl,t,rfl⟩;exact⟨t,TcO⟩
theorem KY(a:List UInt8)(d:UInt8):Lib.hasSuffix [] (a++[d])=false:=by
 cases h:Lib.hasSuffix [] (a++[d])with
 |false=>rfl
 |true =>
  obtain⟨t,ht⟩:=List.isSuffixOf_iff_suffix.1 h;simp at ht
theorem J4(l:List UInt8):KW l=jr l:=by
 unfold KW jr IM;rw[tD];cases hs:nV.find? fun p=>Lib.hasSuffix l p with
 |some p=>rfl
 |none =>
  rw[Option.none_or];rcases List.eq_nil_or_concat l with rfl|⟨b,x,rfl⟩
  ·rw[bh TcO,List.find?_eq_none.2 fun p hp=>?_]
   ·rfl
   obtain⟨d,rfl,-⟩:=Jy hp;rw[KY];decide
  rw[List.concat_eq_append];have e1:(b++[x]).getLastD 0=x:=by simp
  have e2:(b++[x]).dropLast=b:=by simp
  rw[e1,e2];cases hl:JL.find? fun p=>Lib.hasSuffix (b++[x]) p with
  |none =>
   rw[bh]
   ·rfl
   rintro⟨-,h1,h2,h3⟩;exact absurd ((Jh xg b x x).2 ⟨rfl,h3⟩) (List.find?_eq_none.1 hl _ (KR h1 h2))
  |some p =>
   obtain⟨d,rfl,h1,h2⟩:=Jy (eV hl);obtain⟨rfl,h3⟩:=(Jh xg b d x).1 (by simpa using List.find?_some hl);rw[aw ⟨TcO,h1,h2,h3⟩];have h4:4<=b.length:=(List.isSuffixOf_iff_suffix.1 h3).length_le;show some ((b++[d]).take _)=_;rw[List.take_append_of_le_length (by simp[xg])];congr 2
   simp[xg]
theorem KL(h:p∈IM):p.length<=6:=by
 simp only[IM,JL,nV,List.cons_append,List.nil_append,dr,cY,dg]at h;rcases h with rfl|rfl|rfl|rfl|rfl|rfl|rfl|rfl|rfl|rfl|rfl|rfl<;>decide
def K3(s:ByteArray)(w:World)(e:Ending)(w':World):Prop:=∃r:List UInt8,e=.returned (.tuple #[.string ⟨r.toArray⟩,.bool (jr s.data.toList).isSome])/\(∀x,jr s.data.toList=some x->r=x)/\Below w.heap.size w w'
def Taw :Tab #[.string ⟨#[95,108,111,103]⟩,.string ⟨#[95,100,97,116,97]⟩,.string ⟨#[95,109,101,116,97]⟩,.string ⟨#[95,115,112,97,114,101]⟩,.string ⟨#[95,108,101,103,48]⟩,.string ⟨#[95,108,101,103,49]⟩,.string ⟨#[95,108,101,103,50]⟩,.string ⟨#[95,108,101,103,51]⟩,.string ⟨#[95,108,101,103,52]⟩,.string ⟨#[95,108,101,103,53]⟩,.string ⟨#[95,108,101,103,54]⟩,.string ⟨#[95,108,101,103,55]⟩]:=⟨⟩
theorem Iw(s:ByteArray)(w:World)(hs:s.size<=9223372036854775807) :
  Calls prog 169 #[.string s] w (K3 s w):=by
 have hA:=ae w (.cells (IM.map fun p=>Value.string ⟨p.toArray⟩).toArray 9);have hN:=b9 w (.cells (IM.map fun p=>Value.string ⟨p.toArray⟩).toArray 9);have Tb:=aa (show(w.alloc (.cells Taw 9)).heap[w.heap.size]?=some (.cells (IM.map fun p=>Value.string ⟨p.toArray⟩).toArray 9 (0,0)) from hN);have HB:=aa (show Below w.heap.size w (w.alloc (.cells Taw 9)) from hA);clear hA hN;go_enter func169,ntmps169;go_wp2;generalize hW1:World.alloc w _=W1 at *;generalize XL:w.heap.size=Bs at *;clear hW1
 go_loopw[5,6] (fun i _ wr=>∃k:Nat,k<=12/\i=.int .i64 k/\(∀j p,j<k->IM[j]?=some p->Lib.hasSuffix s.data.toList p=false)/\Below W1.heap.size W1 wr) (fun i _ _=>12-(intOf i).toNat)
 exact⟨0,cg _,rfl,fun j p hj=>by omega,bj _ _⟩;obtain⟨k,hk,rfl,hno,hb⟩:=hrel;have Ty:=aa hno;clear hno;have fy:=aa (HB.o.trans (hb.mono (by have:=HB.o.size;omega)));have Fc:=aa hb;have HNW:=Zbk hb Tb;clear hb;by_cases hlt:k<12
 ·obtain⟨p,hp⟩:=aj IM k hlt;have hc:wr.cell? (Bs,k)=some (.string ⟨p.toArray⟩):=by
   simp only[World.cell?,HNW.o];simp[hp]
  have hpl:=KL (ct hp);have HP:=aa hp;clear hp;have CH:(⟨p.toArray⟩:ByteArray).size=p.length:=rfl;have aw9:=aa (Lib.hasSuffix_raw s ⟨p.toArray⟩);have hpd:Hid ((⟨p.toArray⟩:ByteArray).data.toList=p):=aa rfl;generalize Un:(⟨p.toArray⟩:ByteArray)=pb at *;clear Un;have hw:IntKind.i64.wrap ((s.size:Int)-(p.length:Int))=(s.size:Int)-(p.length:Int):=dy _ TcN;have al8:Hid (Lib.hasSuffix s.data.toList p=false->∀j q,j<k+1->IM[j]?=some q->Lib.hasSuffix s.data.toList q=false):=aa fun h j q hj hq=>by
   by_cases hjk:j=k
   ·subst hjk;rw[HP.o]at hq;cases hq
    exact h
   exact Ty.o j q TcN hq
  have aw3:Hid (Lib.hasSuffix s.data.toList p=true->jr s.data.toList=some (s.data.toList.take (s.data.toList.length-p.length))):=aa fun h=>by
   have hf:(IM.find? fun p=>Lib.hasSuffix s.data.toList p)=some p:=by
    rw[List.find?_eq_some_iff_getElem];obtain⟨hk4,ZU⟩:=List.getElem?_eq_some_iff.1 HP.o;refine⟨h,k,hk4,ZU,fun j hj=>?_⟩;rw[Ty.o j _ hj (lO TcN)];rfl
   rw[<- J4,KW,hf];rfl
  rw[hpd.o]at aw9;clear hpd;by_cases hle:p.length<=s.size
  ·have hg:decide ((s.size:Int)-(p.length:Int) ≥ 0)=true:=eA TcN;have hx1:((s.size:Int)-(p.length:Int)).toNat=s.size-p.length:=by omega
   have Yh:((s.extract (s.size-p.length) s.size).toList==pb.toList)=Lib.hasSuffix s.data.toList p:=by
    rw[<- aw9.o,CH,eA hle,Bool.true_and]
   cases MO:Lib.hasSuffix s.data.toList p with
   |true =>
    rw[MO]at Yh;have HT:=aa (aw3.o MO);have Ss:=aa (Lib.extract_eq s 0 (s.size-p.length));clear MO aw3 al8;go_upto_region 6 with(fail);go_quiet (fail);clear Yh hg hc;have o0:Hid (∀n,Below Bs w (wr.drewN n)):=aa fun n=>aT fy.o n;go_wp2;go_ret2;refine⟨s.data.toList.take (s.data.toList.length-p.length),?_,fun x hx=>?_,?_⟩
    ·rw[HT.o,Ss.o];simp
    ·rw[HT.o]at hx;exact gj hx
    rw[XL];exact o0.o _
   |false =>
    rw[MO]at Yh;have HT:=aa (al8.o MO);clear MO aw3 al8;go_upto_region 6 with(fail);go_quiet (fail);clear Yh hg hc;have o0:Hid (∀n,Below W1.heap.size W1 (wr.drewN n)):=aa fun n=>aT Fc.o n;go_wp2;go_roundw
    exact⟨k+1,TcN,TcR,HT.o,o0.o _⟩;simp[intOf];omega
  have hg:decide ((s.size:Int)-(p.length:Int) ≥ 0)=false:=cN TcN;have HT:=aa (al8.o (by rw[<- aw9.o,CH,cN hle,Bool.false_and]));clear aw3 al8;go_upto_region 6 with(fail);go_quiet (fail);clear hg hc;have o0:Hid (∀n,Below W1.heap.size W1 (wr.drewN n)):=aa fun n=>aT Fc.o n;go_wp2;go_roundw
  exact⟨k+1,TcN,TcR,HT.o,o0.o _⟩;simp[intOf];omega
 obtain rfl:k=12:=by omega
 have HT:Hid (jr s.data.toList=none):=aa (by
  rw[<- J4,KW,List.find?_eq_none.2 fun p hp=>?_]
  ·rfl
  obtain⟨j,hj⟩:=fc hp;rw[Ty.o j p (List.getElem?_eq_some_iff.1 hj).1 hj];decide)
 go_wp2;go_ret2;exact(show K3 s w _ _ from⟨[],by rw[HT.o];rfl,(fun x hx=>by rw[HT.o]at hx;cases hx),by rw[XL];exact fy.o⟩)
theorem yh(s:ByteArray)(w:World)(hs:s.size<=9223372036854775807) :
  Calls prog 134 #[.string s] w fun e w'=>e=.returned (.bool (jo s))/\Below w.heap.size w w':=by
 go_enter func134,ntmps134
 go_wp2_with fail;refine(Iw s _ hs).mono ?_;rintro e w1 ⟨r,rfl,_,hb1⟩;have cU:=aa hb1;clear hb1;go_wp2_with fail;refine(J6 s _ hs).mono ?_;rintro e w2 ⟨rfl,rfl⟩;exact Ta1
theorem Jb(h:jr l=none):zH ⟨l.toArray⟩=false:=by
 unfold zH;rw[show(⟨l.toArray⟩:ByteArray).data.toList=l from rfl,yc h];rfl
theorem J7(h:jr l=some x):jo ⟨l.toArray⟩=false:=by
 unfold jo;rw[show(⟨l.toArray⟩:ByteArray).data.toList=l from rfl,h];simp
theorem Ke(h:jr l=some x):zH ⟨l.toArray⟩=(decide (l.length<=40)&&(jo ⟨x.toArray⟩||zH ⟨x.toArray⟩)):=by
 have hlt:=pU h;have e1:zH ⟨l.toArray⟩=(decide (l.length<=40)&&jo ⟨(gu x).1.toArray⟩):=by
  unfold zH;rw[show(⟨l.toArray⟩:ByteArray).data.toList=l from rfl,zI h,eA TcO,Bool.true_and];rfl
 rw[e1];by_cases h40:l.length<=40
 ·rw[eA h40,Bool.true_and,Bool.true_and]
  cases hx:jr x with
  |none =>
   rw[Jb hx,Bool.or_false,yc hx]
  |some y =>
   rw[J7 hx,nj];unfold zH;rw[show(⟨x.toArray⟩:ByteArray).data.toList=x from rfl,eA (show(⟨x.toArray⟩:ByteArray).size<=40 from(by show x.length<=40;omega)),Bool.and_true,zI hx,eA (show 0<(gu y).2+1 by omega),Bool.true_and]
 rw[cN h40,Bool.false_and,Bool.false_and]
theorem Hm(f:Nat):∀(l:List UInt8) (w:World),l.length<=f->l.length<=9223372036854775807 ->
  Calls prog 136 #[.string ⟨l.toArray⟩] w fun e w'=>e=.returned (.bool (zH ⟨l.toArray⟩))/\Below w.heap.size w w':=by
 induction f with
 |zero =>
  intro l w hf hs;obtain rfl:=fX (Nat.le_zero.1 hf);go_enter func136,ntmps136
  go_wp2_with fail;refine(Iw ⟨([]:List UInt8).toArray⟩ _ TcQ).mono ?_;rintro e w1 ⟨r,rfl,_,hb1⟩;have cU:=aa hb1;clear hb1;have hc:(jr (⟨([]:List UInt8).toArray⟩:ByteArray).data.toList).isSome=false:=by decide
  rw[hc];clear hc;go_wp2;go_ret;exact⟨rfl,cU.o⟩
 |succ f ih =>
  intro l w hf hs;have IH:=aa ih;clear ih;go_enter func136,ntmps136
  go_wp2_with fail;refine(Iw ⟨l.toArray⟩ _ hs).mono ?_;rintro e w1 ⟨r,rfl,hr,hb1⟩;have cU:=aa hb1;clear hb1;generalize hcb:(jr (⟨l.toArray⟩:ByteArray).data.toList).isSome=cb at *;cases hc:jr l with
  |none =>
   obtain rfl:false=cb:=by rw[<- hcb];show false=(jr l).isSome;rw[hc];rfl
   have HF:=aa (Jb hc);clear hc hcb hr;go_wp2;go_ret;exact⟨ah HF.o.symm,cU.o⟩
  |some x =>
   obtain rfl:true=cb:=by rw[<- hcb];show true=(jr l).isSome;rw[hc];rfl
   obtain rfl:=hr x hc;have HF:=aa (Ke hc);have hlt:=pU hc;clear hc hcb hr;have hsz:(⟨l.toArray⟩:ByteArray).size=l.length:=rfl;have Qc:Hid (∀b:Bool,b=zH ⟨l.toArray⟩->Value.bool b=Value.bool (zH ⟨l.toArray⟩)):=aa fun b h=>by rw[h]
   by_cases h40:l.length<=40
   ·rw[eA h40,Bool.true_and]at HF;have hd:decide ((l.length:Int)<=40)=true:=eA TcN;go_wp2_with fail;refine(yh ⟨r.toArray⟩ _ (by show r.length<=_;omega)).mono ?_;rintro e w2 ⟨rfl,hb2⟩;have cm:=Zbl cU hb2;clear hb2;cases hv:jo ⟨r.toArray⟩with
    |true =>
     rw[hv]at HF;clear hv;go_wp2;go_ret;exact⟨ah HF.o.symm,cm.o⟩
    |false =>
     rw[hv]at HF;clear hv;go_wp2_with fail;refine(IH.o r _ TcN TcN).mono ?_;rintro e w3 ⟨rfl,hb3⟩;have cJ:=Zbl cm hb3;clear hb3;rw[nj]at HF;rw[<- HF.o];go_wp2;go_ret;exact⟨rfl,cJ.o⟩
   rw[cN h40]at HF;have hd:decide ((l.length:Int)<=40)=false:=cN TcN;go_wp2;go_ret;exact⟨ah HF.o.symm,cU.o⟩
def IU(l vd:List UInt8)(ok:Bool):List UInt8 × Int :=
 if jo ⟨l.toArray⟩=false/\zH ⟨l.toArray⟩=false then([],10) else if ok=false then([],1) else if 40<l.length+vd.length then([],4) else(l++vd,0)
theorem TeD{p:Prop}(h:p:=by rw[HX.o];exact fj (fun s=>Ending.returned (.tuple #[.string s,.int .i64 0])) YH.o):p:=h
theorem G7(l vd:List UInt8)(ok:Bool)(w:World)(hs:l.length<=1000000000)(MO:vd.length<=100) :
  Calls prog 171 #[.string ⟨l.toArray⟩,.string ⟨vd.toArray⟩,.bool ok] w fun e w'=>e=.returned (.tuple #[.string ⟨(IU l vd ok).1.toArray⟩,.int .i64 (IU l vd ok).2])/\Below w.heap.size w w':=by
 have HA:Hid (IU l vd ok=_):=aa (IU.eq_1 l vd ok);have hz1:(⟨l.toArray⟩:ByteArray).size=l.length:=rfl;have hz2:(⟨vd.toArray⟩:ByteArray).size=vd.length:=rfl;have YH:=aa (sQ l vd);have CI:Hid (∀(K:Prop),¬(jo ⟨l.toArray⟩=false/\zH ⟨l.toArray⟩=false)->(IU l vd ok=if ok=false then([],1) else if 40<l.length+vd.length then([],4) else(l++vd,0))):=aa fun _ h=>by rw[HA.o,bh h]
 go_enter func171,ntmps171
 go_wp2_with fail;refine(yh ⟨l.toArray⟩ _ (by show l.length<=_;omega)).mono ?_;rintro e w1 ⟨rfl,hb1⟩;have cU:=aa hb1;clear hb1;cases hv:jo ⟨l.toArray⟩with
 |false =>
  go_wp2_with fail;refine(Hm l.length l _ (bk _) TcN).mono ?_;rintro e w2 ⟨rfl,hb2⟩;have cm:=Zbl cU hb2;clear hb2;cases hh:zH ⟨l.toArray⟩with
  |false =>
   have HX:Hid (IU l vd ok=([],10)):=aa (by rw[HA.o,aw ⟨hv,hh⟩]);clear hv hh;go_wp2;go_ret2;exact⟨Tdi,cm.o⟩
  |true =>
   have HX:=aa (CI.o True (fun q=>by rw[hh]at q;cases q.2));clear hv hh;cases ok with
   |false =>
    go_wp2;go_ret2;exact⟨Tdi,cm.o⟩
   |true =>
    rw[bh TcQ]at HX;by_cases h40:40<l.length+vd.length
    ·rw[aw h40]at HX;have hd:decide (40<(l.length:Int)+(vd.length:Int))=true:=eA TcN;go_wp2;go_ret2;exact⟨Tdi,cm.o⟩
    rw[bh h40]at HX;have hd:decide (40<(l.length:Int)+(vd.length:Int))=false:=cN TcN;go_wp2;go_ret2;exact⟨TeD,cm.o⟩
 |true =>
  have HX:=aa (CI.o True (fun q=>by rw[hv]at q;cases q.1));clear hv;cases ok with
  |false =>
   go_wp2;go_ret2;exact⟨Tdi,cU.o⟩
  |true =>
   rw[bh TcQ]at HX;by_cases h40:40<l.length+vd.length
   ·rw[aw h40]at HX;have hd:decide (40<(l.length:Int)+(vd.length:Int))=true:=eA TcN;go_wp2;go_ret2;exact⟨Tdi,cU.o⟩
   rw[bh h40]at HX;have hd:decide (40<(l.length:Int)+(vd.length:Int))=false:=cN TcN;go_wp2;go_ret2;exact⟨TeD,cU.o⟩
theorem I8(l vd:List UInt8)(h:vd≠[]):IU l vd true=iK l vd:=by
 unfold IU iK;rw[bh (show ¬true=false by decide),bh h]
theorem IX(l vd:List UInt8):IU l vd false=iK l []:=by
 unfold IU iK;rw[aw (show false=false from rfl),aw rfl]
theorem KZ:∀i:Nat,i<=7->(⟨#[48,49,50,51,52,53,54,55]⟩:ByteArray).extract i (i+1)=⟨#[UInt8.ofNat (48+i)]⟩
 |0,_=>rfl
 |1,_=>rfl
 |2,_=>rfl
 |3,_=>rfl
 |4,_=>rfl
 |5,_=>rfl
 |6,_=>rfl
 |7,_=>rfl
 |n+8,h=>by omega
theorem TcC{p:Prop}(h:p:=by
 refine HAD.o.mono ?_;rintro e w2 ⟨rfl,hb2⟩;have cm:=aa hb2;clear hb2;go_wp2;go_ret2;exact⟨rfl,cm.o⟩):p:=h
theorem Tbj{p:Prop}(h:p:=by
 clear h h0;go_enter func140,ntmps140
 go_wp2_with fail
 try rw[YH.o]
 exact TcC):p:=h
theorem Kw(l:List UInt8)(k:Int)(w:World)(hs:l.length<=1000000000)(hk:-1000000<=k/\k<=1000000) :
  Calls prog 140 #[.string ⟨l.toArray⟩,.int .i64 k] w fun e w'=>e=.returned (.tuple #[.string ⟨(iK l (bf k)).1.toArray⟩,.int .i64 (iK l (bf k)).2])/\Below w.heap.size w w':=by
 by_cases h:0<=k/\k<=7
 ·obtain⟨i,rfl⟩:∃i:Nat,k=(i:Int):=⟨k.toNat,TcN⟩
  have hi:i<=7:=by omega
  have HX:=aa (KZ i hi);have U6:bf (i:Int)=xg++[UInt8.ofNat (48+i)]:=by
   unfold bf;rw[aw h];simp
  have HAD:=aa (G7 l (xg++[UInt8.ofNat (48+i)]) true w hs (by simp[xg]));rw[I8 _ _ TcO,<- U6]at HAD;have YH:Hid ((⟨#[95,108,101,103]⟩:ByteArray)++⟨#[UInt8.ofNat (48+i)]⟩=⟨(bf (i:Int)).toArray⟩):=aa (by rw[U6];exact sQ xg [UInt8.ofNat (48+i)]);clear U6;have hx1:((i:Int)+1).toNat=i+1:=by omega
  have hx2:((i:Int)).toNat=i:=by omega
  have hw:IntKind.i64.wrap ((i:Int)+1)=(i:Int)+1:=dy _ TcN;have d1:decide ((0:Int)<=(i:Int))=true:=eA TcN;have d2:decide ((i:Int)<=7)=true:=eA TcN;clear h;go_enter func140,ntmps140
  go_wp2_with fail;rw[HX.o,YH.o];exact TcC
 have U6:bf k=[]:=by
  unfold bf;rw[bh h]
 rw[U6];have HAD:=aa (G7 l (xg++[48]) false w hs (by simp[xg]));rw[IX]at HAD;have YH:Hid ((⟨#[95,108,101,103]⟩:ByteArray)++⟨#[48]⟩=⟨(xg++[48]).toArray⟩):=aa (sQ xg [48]);clear U6;by_cases h0:0<=k
 ·have d1:decide ((0:Int)<=k)=true:=eA h0;have d2:decide (k<=7)=false:=cN TcN;exact Tbj
 have d1:decide ((0:Int)<=k)=false:=cN h0;exact Tbj
theorem Kz(h:p∈nV):p.length<=100/\p≠[]:=by
 simp only[nV,dr,cY,dg]at h;rcases h with rfl|rfl|rfl|rfl<;>exact⟨TcQ,TcQ⟩
def TaJ :Tab #[.string ⟨#[95,108,111,103]⟩,.string ⟨#[95,100,97,116,97]⟩,.string ⟨#[95,109,101,116,97]⟩,.string ⟨#[95,115,112,97,114,101]⟩]:=⟨⟩
theorem Tbl{p:Prop}(h:p:=by
 clear h h0 CH;go_enter func141,ntmps141
 go_wp2_with fail;exact TcC):p:=h
theorem I4(l:List UInt8)(k:Int)(w:World)(hs:l.length<=1000000000)(hk:-1000000<=k/\k<=1000000) :
  Calls prog 141 #[.string ⟨l.toArray⟩,.int .i64 k] w fun e w'=>e=.returned (.tuple #[.string ⟨(iK l (dH k)).1.toArray⟩,.int .i64 (iK l (dH k)).2])/\Below w.heap.size w w':=by
 by_cases h:1<=k/\k<=4
 ·obtain⟨i,hi⟩:∃i:Nat,k.toNat-1=i:=⟨_,rfl⟩
  obtain⟨p,hp⟩:=aj nV i (by show i<4;omega);have CH:dH k=p:=by
   unfold dH;rw[aw h,hi];simp[hp]
  rw[CH];have hpl:=Kz (ct hp);have hA:=ae w (.cells (nV.map fun p=>Value.string ⟨p.toArray⟩).toArray 9);have hN:=b9 w (.cells (nV.map fun p=>Value.string ⟨p.toArray⟩).toArray 9);have hc:(w.alloc (.cells TaJ 9)).cell? (w.heap.size,i)=some (.string ⟨p.toArray⟩):=by
   show(w.alloc (.cells (nV.map fun p=>Value.string ⟨p.toArray⟩).toArray 9)).cell? (w.heap.size,i)=some (.string ⟨p.toArray⟩);simp only[World.cell?,hN];simp[hp]
  have HB:Hid (Below w.heap.size w (w.alloc (.cells TaJ 9))):=aa hA;clear hA hN hp CH;have HAD:=aa fun w=>G7 l p true w hs hpl.1;rw[I8 _ _ hpl.2]at HAD;clear hpl;have Ta:k-1=(i:Int):=by omega
  have hi1:IntKind.i64.wrap (k-1)=(i:Int):=by rw[Ta];exact dy _ TcN
  have d1:decide ((1:Int)<=k)=true:=eA TcN;have d2:decide (k<=4)=true:=eA TcN;have hi4:i<4:=by omega
  clear h hi Ta;go_enter func141,ntmps141
  go_wp2_with fail;refine(HAD.o _).mono ?_;rintro e w2 ⟨rfl,hb2⟩;have cm:=Zbl HB hb2;clear hb2;go_wp2;go_ret2;exact⟨rfl,cm.o⟩
 have CH:dH k=[]:=by
  unfold dH;rw[bh h]
 rw[CH];have HAD:=aa (G7 l [95,108,111,103] false w hs TcQ);rw[IX]at HAD;by_cases h0:1<=k
 ·have d1:decide ((1:Int)<=k)=true:=eA h0;have d2:decide (k<=4)=false:=cN TcN;exact Tbl
 have d1:decide ((1:Int)<=k)=false:=cN h0;exact Tbl
open Go.Maps
theorem mi{W:World}{b:Nat}{l:List Value}{t:TypeId}{q:Nat × Nat}(h:W.heap[b]?=some (.cells l.toArray t q))(i:Nat)(z:Value)(hz:l[i]?=some z):W.cell? (b,i)=some z:=by
 exact Tcr
theorem KP:∀a b:List UInt8,(Op.bytesLess a b||a==b)=!(Op.bytesLess b a)
 |[],[]=>rfl
 |[],_ :: _=>rfl
 |_ :: _,[]=>rfl
 |x :: a,y :: b=>by
  have ih:=KP a b;show((decide (x<y)||(x==y&&Op.bytesLess a b))||(x==y&&a==b))=!(decide (y<x)||(y==x&&Op.bytesLess b a));by_cases h:x=y
  ·subst h;have h1:decide (x<x)=false:=cN (by rw[UInt8.lt_iff_toNat_lt];omega);rw[h1,beq_self_eq_true,nj,Bool.true_and,Bool.true_and,nj,Bool.true_and];exact ih
  have h1:(x==y)=false:=beq_eq_false_iff_ne.2 h;have h2:(y==x)=false:=beq_eq_false_iff_ne.2 fun e=>h e.symm;rw[h1,h2,Bool.false_and,Bool.false_and,Bool.false_and,Bool.or_false,Bool.or_false,Bool.or_false,<- decide_not];refine decide_eq_decide.2 ?_;have h3:x.toNat≠y.toNat:=fun e=>h (UInt8.toNat_inj.1 e);rw[UInt8.lt_iff_toNat_lt,UInt8.lt_iff_toNat_lt];omega
theorem IZ{s:ByteArray}{b:Bool}(h:mr s=b)(hs:s.size<=9223372036854775807)(w:World):Calls prog 48 #[.string s] w fun e w'=>e=.returned (.bool b)/\w'=w:=by
 subst h;refine(Jz s w hs).mono ?_;rintro e w' ⟨h1,h2⟩;exact⟨h1,h2.symm⟩
theorem Hl{ok:Nat->Prop}(l:List ByteArray)(v:Value)(w:World)(hr:b6 aF 1 ok w [v] l)(hl:l.length<=1000000)(hsz:∀s∈l,s.size<=9223372036854775807) :
  Calls prog 135 #[v] w fun e w'=>e=.returned (.int .i64 (eP l))/\Below w.heap.size w w':=by
 obtain⟨p,c,rfl,hc1,hc2⟩:=hr.cap;have HR:=aa hr;clear hr;have Zu:=aa hsz;clear hsz;have HT:Hid (eP l=_):=aa (eP.eq_1 l);go_enter func135,ntmps135
 by_cases h8:8<l.length
 ·rw[aw h8]at HT;have hd:decide ((8:Int)<(l.length:Int))=true:=by simp;omega
  go_wp2;go_ret;exact⟨cz HT.o.symm,bj _ _⟩
 rw[bh h8]at HT;have hd:decide ((8:Int)<(l.length:Int))=false:=by simp;omega
 go_wp2;go_loopw[3] (fun i wr=>∃k:Nat,k<=l.length/\i=.int .i64 k/\(∀j,j<k->kV l j=true)/\Below w.heap.size w wr) (fun i _=>l.length-(intOf i).toNat)
 exact⟨0,cg _,rfl,fun j hj=>by omega,bj _ _⟩;obtain⟨k,hk,rfl,hall,hB⟩:=hrel;have cE:=aa hall;clear hall;by_cases hlt:k<l.length
 ·obtain⟨s,hs⟩:=aj l k hlt;obtain⟨b,off,us,rfl,_,cX,ez,eE,hcv⟩:=HR.o.elem hs;obtain rfl:us=_:=eE;have q0:=(hB.cell (p:=⟨b,off+k*1+0,none⟩) cX).trans (hcv 0 _ rfl);rw[fp,fg]at q0;have HG:Hid (l.getD k ⟨#[]⟩=s):=aa (by simp[hs]);have Ud:=Zu.o s (ct hs);clear hcv ez hs;have Mz:Hid (kV l k=_):=aa (kV.eq_1 l k);rw[HG.o]at Mz;have PZ:Hid (kV l k=false->eP l=2):=aa fun h=>by
   rw[HT.o,bh];intro hh;rw[eL]at hh;rw[hh k (List.mem_range.2 hlt)]at h;cases h
  have kh:Hid (kV l k=true->∀j,j<k+1->kV l j=true):=aa fun h j hj=>by
   by_cases hjk:j=k
   ·exact hjk ▸ h
   exact cE.o j TcN
  have HBD:=aa fun n=>aT hB n;cases ht:mr s with
  |false =>
   have Up:=aa (IZ ht Ud);have j9:Hid (kV l k=false):=aa (by rw[Mz.o,ht];rfl);clear ht;go_upto_region 6 with(fail);go_quiet ((go_at_call 48;exact po (Up.o _)));go_wp2;go_ret;exact⟨cz (PZ.o j9.o).symm,HBD.o _⟩
  |true =>
   have Up:=aa (IZ ht Ud);by_cases hk0:k<1
   ·have j9:Hid (kV l k=true):=aa (by rw[Mz.o,ht,eA (show k=0 by omega)];rfl);have hg:decide ((0:Int)<(k:Int))=false:=by simp;omega
    have hg2:decide (0<k)=false:=by simp;omega
    clear ht;go_upto_region 6 with(fail);go_quiet ((go_at_call 48;exact po (Up.o _)));go_wp2;go_roundw
    exact⟨k+1,TcN,TcR,kh.o j9.o,HBD.o _⟩;simp[intOf];omega
   obtain⟨r,hr'⟩:=aj l (k-1) TcN;obtain⟨b',off',us',e',_,ak8,TE,Tv,hcv'⟩:=HR.o.elem hr';obtain rfl:us'=_:=Tv;injection e' with e';injection e' with eb eo;subst eb;subst eo;have q1:=(hB.cell (p:=⟨b,off+(k-1)*1+0,none⟩) cX).trans (hcv' 0 _ rfl);rw[fp,fg]at q1;have hgm:l.getD (k-1) ⟨#[]⟩=r:=by simp[hr']
   rw[hgm]at Mz;clear hgm hcv' TE ak8 hr';have hg:decide ((0:Int)<(k:Int))=true:=by simp;omega
   have hg2:decide (0<k)=true:=by simp;omega
   cases hc:Op.bytesLess r.toList s.toList with
   |true =>
    have j9:Hid (kV l k=true):=aa (by rw[Mz.o,ht,XY,hc];simp);have hle:(Op.bytesLess s.toList r.toList||s.toList==r.toList)=false:=by rw[KP,hc];rfl
    clear ht;go_upto_region 6 with(fail);go_quiet ((go_at_call 48;exact po (Up.o _)));go_wp2;go_roundw
    exact⟨k+1,TcN,TcR,kh.o j9.o,HBD.o _⟩;simp[intOf];omega
   |false =>
    have hle:(Op.bytesLess s.toList r.toList||s.toList==r.toList)=true:=by rw[KP,hc];rfl
    have j9:Hid (kV l k=false):=aa (by rw[Mz.o,ht,XY,hc,cN (show ¬k=0 by omega)];rfl);clear ht;go_upto_region 6 with(fail);go_quiet ((go_at_call 48;exact po (Up.o _)));go_wp2;go_ret;exact⟨cz (PZ.o j9.o).symm,HBD.o _⟩
 go_wp2;go_ret;refine⟨cz (Eq.symm ?_),hB⟩;rw[HT.o,aw];rw[eL];exact fun j hj=>cE.o j (by have:=List.mem_range.1 hj;omega)
theorem Kj{ok:Nat->Prop}(g:af)(a:bN)(w:World)(hg:dN ok w g a)(hz:UT g) :
  Calls prog 82 #[.agg (Tad g a)] w fun e w'=>e=.returned (.int .i64 (qX g))/\Below w.heap.size w w':=by
 have HT:=aa hg.tags;have HH:=aa hg.hist;have HZ:=aa hz;have hhl:=hz.hl;have hnz:=hz.name;obtain⟨vp,vc,sT,ao8,ap0⟩:=hg.hist.cap;injection sT with e1 e2 e3;obtain⟨p6,c6,h6,h61,h62⟩:=hg.Gb.cap;obtain⟨p7,c7,h7,h71,h72⟩:=hg.F9.cap;clear hg hz;obtain⟨ID,TJ,TK,G3,G4,Ge,Hb,Hc⟩:=a;dsimp only at e1 e2 e3 h6 h7;subst e1;subst e3;clear e2 h6 h7 h61 h62 h71 h72;have HE:Hid (qX g=_):=aa (qX.eq_1 g);have CN:=aa (b9 w (.cells (Tan g ID TJ TK G3 G4 Ge Hb Hc) 32));have hA:=ae w (.cells (Tan g ID TJ TK G3 G4 Ge Hb Hc) 32);have cU:=aa hA;have n0:=mi CN.o 0 _ rfl;clear hA;go_enter func82,ntmps82
 go_wp2_with fail;generalize hW1:World.alloc w _=W1 at *;have XK:w.heap.size=w.heap.size:=rfl;generalize hB0:w.heap.size=B at CN;clear hW1 XK n0;refine(yh g.name W1 hnz).mono ?_;rintro e w2 ⟨rfl,hb2⟩;have cm:=Zbl cU hb2;have pH:=Zbk hb2 CN;clear hb2 cU CN;have n2:=mi pH.o 2 _ rfl;have n3:=mi pH.o 3 _ rfl;have n4:=mi pH.o 4 _ rfl;have n5:=mi pH.o 5 _ rfl;have n6:=mi pH.o 6 _ rfl;have n7:=mi pH.o 7 _ rfl;have n8:=mi pH.o 8 _ rfl;cases XV:jo g.name with
 |false =>
  rw[aw XV]at HE;clear XV;go_wp2;go_ret;exact⟨cz HE.o.symm,cm.o⟩
 |true =>
  rw[bh (by rw[XV];decide)]at HE;clear XV;by_cases hr:lm g
  ·rw[bh (fun h=>h hr)]at HE;obtain⟨r1,r2,r3,r4,r5,r6⟩:=hr;by_cases hl:iR g
   ·rw[bh (fun h=>h hl)]at HE;obtain⟨l1,l2,l3⟩:=hl;have d6:decide ((8:Int)<(g.Gb.length:Int))=false:=by simp;omega
    have d7:decide ((32:Int)<(g.F9.length:Int))=false:=by simp;omega
    have d8:decide ((32:Int)<(g.history.length:Int))=false:=by simp;omega
    by_cases l5:g.tags.length<=8
    ·have d5:decide ((8:Int)<(g.tags.length:Int))=false:=by simp;omega
     go_wp2_with fail;refine(Hl (ok:=ok) g.tags _ w2 ((b6.moves aF.moves).mv (Mv.of cm.o) HT.o) HZ.o.tags.1 HZ.o.tags.2).mono ?_;rintro e w3 ⟨rfl,hb3⟩;have cJ:=Zbl cm hb3;have LS:=Zbk hb3 pH;clear hb3 cm pH n2 n3 n4 n5 n6 n7 n8 d5 d6 d7 d8 l1 l2 l5 r1 r2 r3 r4 r5 r6;by_cases ht:eP g.tags=0
     ·have Nh:(eP g.tags != 0)=false:=by rw[ht];rfl
      rw[bh (fun h=>h ht)]at HE;clear ht;go_wp2_with fail;go_loopw[4,5] (fun i _ wr=>∃k:Nat,k<=g.history.length/\i=.int .i64 k/\Below w3.heap.size w3 wr/\(∀j,j<k->lL (g.history.getD j (⟨#[]⟩,0,0))=true)) (fun i _ _=>g.history.length-(intOf i).toNat)
      exact⟨0,cg _,rfl,bj _ _,fun j hj=>by omega⟩;obtain⟨k,hk,rfl,hb4,hall⟩:=hrel;have hB:=cJ.o.trans (hb4.mono cJ.o.size);have n8:=mi ((hb4.block _ (aq LS.o)).trans LS.o) 8 _ rfl;have ax0:=aa hb4;clear hb4;have cE:=aa hall;clear hall;by_cases hlt:k<g.history.length
      ·obtain⟨h,hh⟩:=aj g.history k hlt;obtain⟨b,off,us,XG,gR,cX,ez,eE,hcv⟩:=HH.o.elem hh;subst XG;obtain rfl:us=_:=eE;obtain⟨hn,hid,TD⟩:=h;have cT:wr.heap[b]?=w.heap[b]?:=hB.block b cX;obtain⟨q0,q1,q2⟩:=Mn cT hcv;have aq3:=HZ.o.hist _ (ct hh);have HG:Hid (g.history.getD k (⟨#[]⟩,0,0)=(hn,hid,TD)):=aa (by simp[hh]);have PZ:Hid (lL (hn,hid,TD)=false->qX g=2):=aa fun hb=>by
        rw[HE.o,bh];intro Yr;rw[eL]at Yr;rw[Yr _ (ct hh)]at hb;cases hb
       have kh:Hid (lL (hn,hid,TD)=true->∀j,j<k+1->lL (g.history.getD j (⟨#[]⟩,0,0))=true):=aa fun hb j hj=>by
        by_cases hjk:j=k
        ·subst hjk;rw[HG.o];exact hb
        exact cE.o j TcN
       have Mz:Hid (lL (hn,hid,TD)=_):=aa (lL.eq_1 (hn,hid,TD));clear hcv ez cT hh HG cE;have hA:=ae wr (.cells #[.string hn,.int .u64 hid,.int .i64 TD] 62);have eI:=aa (hB.trans (hA.mono hB.size));have ax1:=Zbl ax0 hA;have VG:=aa (b9 wr (.cells #[.string hn,.int .u64 hid,.int .i64 TD] 62));have m0:=mi VG.o 0 _ rfl;clear hA ax0;go_wp2_with fail;clear q0 q1 q2 m0;generalize hW4:World.alloc wr _=W4 at *;generalize hB4:wr.heap.size=Bh at *;clear hW4 hB4 hB n8;refine(yh hn W4 aq3).mono ?_;rintro e w5 ⟨rfl,hb5⟩;have eK:=Zbl eI hb5;have aB3:=Zbl ax1 hb5;have m2:=mi ((hb5.block _ (aq VG.o)).trans VG.o) 2 _ rfl;clear hb5 eI VG ax1;cases ag4:jo hn with
       |false =>
        have j9:Hid (lL (hn,hid,TD)=false):=aa (by rw[Mz.o,ag4];rfl);clear ag4;go_wp2;go_ret;exact⟨cz (PZ.o j9.o).symm,eK.o⟩
       |true =>
        by_cases hr2:0<=TD/\TD<=1048575
        ·have j9:Hid (lL (hn,hid,TD)=true):=aa (by rw[Mz.o,ag4,eA hr2];rfl);obtain⟨s1,s2⟩:=hr2;clear ag4;go_wp2;go_roundw;exact⟨k+1,TcN,TcR,aB3.o,kh.o j9.o⟩;simp[intOf];omega
        have j9:Hid (lL (hn,hid,TD)=false):=aa (by rw[Mz.o,ag4,cN hr2];rfl);have hr3:TD<0\/(0<=TD/\1048575<TD):=by omega
        clear ag4 hr2;rcases hr3 with s1|⟨s1,s2⟩
        all_goals
         go_wp2;go_ret;exact⟨cz (PZ.o j9.o).symm,eK.o⟩
      have HR:Hid (qX g=0):=aa (by
       rw[HE.o,aw];rw[eL];intro x hx;obtain⟨i,hi,rfl⟩:=List.getElem_of_mem hx;have:=cE.o i TcN;simpa[hi]using this)
      go_wp2;go_ret;exact⟨cz HR.o.symm,hB⟩
     have Nh:(eP g.tags != 0)=true:=by simpa using ht
     rw[aw ht]at HE;clear ht;go_wp2_with fail;go_ret;exact⟨cz HE.o.symm,cJ.o⟩
    have d5:decide ((8:Int)<(g.tags.length:Int))=true:=by simp;omega
    have ht:eP g.tags=4:=by unfold eP;rw[aw TcN]
    rw[aw (by rw[ht];decide),ht]at HE;clear ht;go_wp2;go_ret;exact⟨cz HE.o.symm,cm.o⟩
   rw[aw hl]at HE;have hl':8<g.Gb.length\/(g.Gb.length<=8/\32<g.F9.length)\/(g.Gb.length<=8/\g.F9.length<=32/\32<g.history.length):=by unfold iR at hl;omega
   clear hl;rcases hl' with l1|⟨l1,l2⟩|⟨l1,l2,l3⟩
   ·have d6:decide ((8:Int)<(g.Gb.length:Int))=true:=by simp;omega
    go_wp2;go_ret;exact⟨cz HE.o.symm,cm.o⟩
   ·have d6:decide ((8:Int)<(g.Gb.length:Int))=false:=by simp;omega
    have d7:decide ((32:Int)<(g.F9.length:Int))=true:=by simp;omega
    go_wp2;go_ret;exact⟨cz HE.o.symm,cm.o⟩
   have d6:decide ((8:Int)<(g.Gb.length:Int))=false:=by simp;omega
   have d7:decide ((32:Int)<(g.F9.length:Int))=false:=by simp;omega
   have d8:decide ((32:Int)<(g.history.length:Int))=true:=by simp;omega
   go_wp2;go_ret;exact⟨cz HE.o.symm,cm.o⟩
  rw[aw hr]at HE;have hr':g.seq<0\/(0<=g.seq/\1048575<g.seq)\/(0<=g.seq/\g.seq<=1048575/\g.Gd<1)\/(0<=g.seq/\g.seq<=1048575/\1<=g.Gd/\1024<g.Gd)\/(0<=g.seq/\g.seq<=1048575/\1<=g.Gd/\g.Gd<=1024/\g.next<0)\/(0<=g.seq/\g.seq<=1048575/\1<=g.Gd/\g.Gd<=1024/\0<=g.next/\1073741824<g.next):=by unfold lm at hr;omega
  clear hr;rcases hr' with r1|⟨r1,r2⟩|⟨r1,r2,r3⟩|⟨r1,r2,r3,r4⟩|⟨r1,r2,r3,r4,r5⟩|⟨r1,r2,r3,r4,r5,r6⟩
  all_goals
   go_wp2;go_ret;exact⟨cz HE.o.symm,cm.o⟩
theorem Tcu{p:Prop}(h:p:=by
 go_wp2;go_ret;exact⟨rfl,fy.o⟩):p:=h
end Go.Proofs.YtillcmhjhajimaaGreatDoor
