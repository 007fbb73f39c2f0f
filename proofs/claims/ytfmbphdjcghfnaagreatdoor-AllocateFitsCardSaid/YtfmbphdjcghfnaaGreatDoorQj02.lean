/- Lemmas: FlI, SpB, SpC, RanA, RanM, Bri, RanB, SpD, SpCa, RanC, RanE, RanF, SpE, MkRa, MkRb. -/
import Derived.Test.YtfmbphdjcghfnaaGreatDoorQj01
import Derived.Test.YtfmbphdjcghfnaaGreatDoorShelf
import Derived.Shelf.SlSortCmp.WholeK
import Derived.Lib.OwnBridge
import Derived.RangeFuncNested
import Derived.RangeFuncBound
import Derived.Shelf.Sort.Plain
import Derived.Shelf.Slices.In.SortNone
import Derived.Shelf.SlicesQ.Equal
set_option maxRecDepth 100000
set_option maxHeartbeats 32000000
set_option linter.all false
open Array renaming replicate→GW,getElem?_eq_some_iff→F1
open List renaming length→Wq,getElem?_eq_some_iff→AT,singleton_inj→IF,mem_cons→DQ,mem_append→AS,pairwise_cons→IN,pairwise_iff_getElem→It,cons_append→IT,mem_singleton→AM,all_eq_true→An,replicate→DE,nil_append→GO
open Go.Region renaming wanted→Cd,ready→BE,binds→EV,noSelect→GS,free→Is
open Go.Lib renaming compactUpTo→No,compact→Iv,compareInt→Kx
open Go.World renaming frozen?→BT,cell?→AN,alloc→AI,setCell→AF
open Go.Value renaming int→Bm,string→By
open Go.IntKind renaming i64→Sj,u64→U8
open Go.Value renaming slice→FG,pointer→SL,bool→Ft,agg→Tk,tuple→Vj
open Go.Obj renaming cells→Sx
open Go.Ending renaming returned→S6
open Option renaming some→Vv,none→VX
open Bool renaming false→VN,true→VR
open Decidable renaming decide→V7
open Go renaming undef→uu
namespace Go.Proofs.YtfmbphdjcghfnaaGreatDoor
variable{gt:Prop}
open Go.Proofs.Tryz
open Go.RowKit
variable{l next zs:PI}{RK RW Rr SO Se Sf St TO To UP W0 Wg Wr ZD ZS a5 a7 a8 a9 aE aL ab ag am ao av b8 c1 c10 c2 c3 c4 c5 c6 c7 c9 da dj dq eS fa fb ff fs gE gn iS im ka kc ke lE lP mT me mu mw mx nF o4 oE oR oS pe ph pr pt qe qk qt qv rl rm sE sa sd ta tb te tf ti tr tt tv tw v v1 vf vj vm we wg wv yW yk z zd zp:zY}{ap p:IH}{C W w:H7}{name nm on:H6}{Q:N2}{d dd:Tmp}{ac al i j k m n' sz:Nat}{dn kd n st:Int}{a:Act}{o oj:Oper}{α:Type}{F:Fence}{b t:TypeId}{P:Program}{args tmps:Array zY}{K:Act->H7->Prop}
section
section
variable {n:Nat}{P:Program}{ops:Array Oper}{Q:N2}{md:Region.Mode}{S:H7->Prop}{m:Nat}{N:Nat->Bool}
variable {oi:Oper}{v:zY}{i fuel:Nat}{a:Act}{K:Act->H7->Prop}{w w':H7}{listed:Array Bool}{f:FuncId}
def NA(hj:ops[j]?=Vv oj)(a7:oi.apart ops oj=VR)(Z7:∀cs b,oi.op≠.select cs b)(a8:∀cs b,oj.op≠.select cs b)
  (hQ:∀c a w,Q (.panic c) (a.put oi.dst v) w->Q (.panic c) a w)    (hy:YieldsIf P ops S oi v a) (h:wpOpIn Fence.wide n P ops Q j K (a.put oi.dst v) w) :
  wpOpIn Fence.wide n P ops Q j (fun a' w'=>YieldsIf P ops S oi v a'/\K (a'.put oi.dst v) w') a w:=by
 obtain⟨h1,h2,h3⟩:=Oper.apart_spec a7;have keep:∀(a:Act),YieldsIf P ops S oi v a->∀u,YieldsIf P ops S oi v (a.put oj.dst u):=fun a hy u=>hy.of_same (execOp_put oi Z7 a oj.dst u h3) (wanted_put oi a oj.dst u h3);have next:∀u w',K ((a.put oi.dst v).put oj.dst u) w'->YieldsIf P ops S oi v (a.put oj.dst u)/\K ((a.put oj.dst u).put oi.dst v) w':=fun u w' q=>⟨keep a hy u,by rw[<- Act.put_comm a v u h2];exact q⟩;unfold wpOpIn at *;simp only[hj]at *;rw[wanted_put oj a oi.dst v h1]at h
 by_cases hw:Cd oj (yielded ops a.tmps)=VR
 ·rw[aw hw]at h ⊢;refine⟨fun _ _=>trivial,?_⟩;have h:=h.2;rw[tI,ub,execOp_put oj a8 a oi.dst v h1]at h;rw[tI,ub];generalize (execOp a.eval oj).run P w=r at *
  match r with
  |.ok (.value u) w'=>exact next u w' h
  |.ok .skip w'=>exact next uu w' h
  |.ok (.defer d) w' =>
   refine⟨keep { a with defers:=d :: a.defers } (hy.of_same lX rfl) _,?_⟩;rw[<- Act.put_comm _ v uu h2,<- Act.put_defers];exact h
  |.ok (.enter f args) w'=>exact⟨h.1,CallsIn.mono h.2 fun e a5 he=>by
    cases e with
    |returned u=>exact next u a5 he
    |panicked c=>exact hQ _ _ _ he
    |outgrown=>exact he⟩
  |.ok (.row row args) w'=>exact⟨h.1,RowsIn.mono h.2 fun u a5 he=>next u a5 he⟩
  |.ok (.round l f tmps assign body) w'=>exact⟨h.1,RoundIn.mono h.2 fun e a5 he=>by
    cases e with
    |returned u=>exact next u a5 he
    |panicked c=>exact hQ _ _ _ he
    |outgrown=>exact he⟩
  |.halt (.panic u) w'=>exact hQ _ _ _ h
 rw[bh hw]at h ⊢;exact⟨fun _ _=>trivial,next uu w h.2⟩
def qU(hi:ops[i]?=Vv o)(hy:YieldsIf P ops S o v a)(hS:S w)(h:K (a.put o.dst v) w):wpOpIn Fence.wide n P ops Q i K a w:=by
 unfold wpOpIn;simp only[hi];rcases hy with⟨hw,hv⟩|⟨hw,rfl⟩
 ·rw[aw hw];refine⟨fun _ _=>trivial,?_⟩;rw[tI,ub,hv w hS];exact h
 rw[bh (by rw[hw];exact Bool.false_ne_true)];exact⟨fun _ _=>trivial,h⟩
def jm(n:Nat)(P:Program)(md:Region.Mode)(ops:Array Oper)(Q:N2)(S:H7->Prop)(N:Nat->Bool):Nat->Array Bool->Act->H7->Prop
 |0,listed,a,w=>BE md ops listed=[]/\Q .normal a w
 |fuel+1,listed,a,w=>(BE md ops listed=[]->Q .normal a w)/\∀i∈BE md ops listed,wpOpIn Fence.wide n P ops Q i (fun a' w'=>(N i=VR->S w')/\jm n P md ops Q S N fuel (listed.setIfInBounds i VR) a' w') a w
def ng:∀(fuel:Nat) (listed:Array Bool) (a:Act) (w:H7),jm n P md ops Q S N fuel listed a w->wpAnyIn Fence.wide n P md ops Q fuel listed a w
 |0,_,_,_,h=>h
 |fuel+1,_,_,_,h=>⟨h.1,fun i hi=>wpOpIn_mono (fun a' w' h'=>ng fuel _ a' w' h'.2) (h.2 i hi)⟩
def wz{id:Nat}(n:Nat)(S:H7->Prop)(m:Nat)(ws:wy Nat)(hm:P.follows .mixedOrders=VR)(hS:S w.drew)
  (h:S w.drew->jm n P .any ops Q S (needs m ws) ops.size (GW ops.size VN) a w.drew):(Code.region id ops VR).wp P Q a w :=
 (wpIn_wide (n:=n)).1 (wpIn_region_any hm (ng _ _ _ _ (h hS)))
def vK(hi:ops[i]?=Vv oi)(mj:∀(j:Nat) (o:Oper) cs b,ops[j]?=Vv o->o.op≠.select cs b)
  (hQ:∀c a w,Q (.panic c) (a.put oi.dst v) w->Q (.panic c) a w) :
  ∀(fuel:Nat) (listed:Array Bool) (a:Act) (w:H7),lM md ops N listed i=VR ->
   (∀j oj,ops[j]?=Vv oj->j≠i->listed.getD j VR=VN->(∀e∈oj.after,EV md e=VR->e.on≠i)->oi.apart ops oj=VR) ->
   Clo md ops listed->i∈BE md ops listed->YieldsIf P ops S oi v a->S w ->
   jm n P md ops Q S N fuel (listed.setIfInBounds i VR) (a.put oi.dst v) w->jm n P md ops Q S N (fuel+1) listed a w:=by
 intro fuel;induction fuel with
 |zero =>
  intro listed a w _ _ _ hr hy hS H;refine⟨fun h=>Tdv,fun j hj=>?_⟩;by_cases nr:j=i
  ·subst nr;exact qU hi hy hS ⟨fun _=>hS,H⟩
  have:=ix hj nr;rw[H.1]at this;cases this
 |succ fuel ih =>
  intro listed a w hl Uy hc hr hy hS H;have pN:=(mem_ready.1 hr).1;refine⟨fun h=>Tdv,fun j hj=>?_⟩;by_cases nr:j=i
  ·subst nr;exact qU hi hy hS ⟨fun _=>hS,H⟩
  have UY:N j=VR:=by
   cases hN:N j with
   |true=>rfl
   |false=>exact absurd hj (nW hc (Gs hl hN (mV hj) (mem_ready.1 hj).1) pN)
  have h1:=H.2 j (ix hj nr);obtain⟨zj,oj,F0,hall⟩:=mem_ready.1 hj;have a5:∀e∈oj.after,EV md e=VR->e.on≠i:=fun e he hb heq=>by
   have h1:=hall e he hb;rw[heq,getD_both pN]at h1;cases h1
  have h2:=NA F0 (Uy j oj F0 nr zj a5) (fun cs b=>mj i oi cs b hi) (fun cs b=>mj j oj cs b F0) hQ hy h1;have pP:∀k ok,ops[k]?=Vv ok->k≠i->(listed.setIfInBounds j VR).getD k VR=VN ->
    (∀e∈ok.after,EV md e=VR->e.on≠i)->oi.apart ops ok=VR:=fun k ok hk a7 pN hno=>by
   refine Uy k ok hk a7 ?_ hno;by_cases hjk:j=k
   ·subst hjk;exact zj
   rw[ly VR hjk]at pN;exact pN
  refine wpOpIn_mono (fun a' w' h3=>⟨h3.2.1,ih (listed.setIfInBounds j VR) a' w' (uJ hl) pP (hc.set hj) (ix hr (Ne.symm nr)) h3.1 (h3.2.1 UY) ?_⟩) h2;rw[FA _ _ nr];exact h3.2.2
def bQ(hi:ops[i]?=Vv oi)(hd:oi.dst=Vv d)
  (hb:(GS ops&&Is md ops listed i&&(BE md ops listed).contains i&&lM md ops N listed i&&BF md ops listed)=VR)
  (hQ:∀c a w,Q (.panic c) (a.put (Vv d) v) w->Q (.panic c) a w) (hy:YieldsIf P ops S oi v a) (hS:S w)
  (h:jm n P md ops Q S N fuel (listed.setIfInBounds i VR) (a.put (Vv d) v) w):jm n P md ops Q S N (fuel+1) listed a w:=by
 simp only[eh]at hb;obtain⟨⟨⟨⟨h1,h2⟩,h3⟩,h4⟩,h5⟩:=hb;rw[<- hd]at hQ h;exact vK hi (XS h1) hQ fuel listed a w h4 (Region.free_spec hi h2) (oK h5) TdK hy hS h
def jh(hi:ops[i]?=Vv o)(hw:Cd o (yielded ops a.tmps)=VR)(hr:BE md ops listed=[i])
  (h:∀K:Act->H7->Prop,Hid (∀a' w',(N i=VR->S w')->jm n P md ops Q S N fuel (listed.setIfInBounds i VR) a' w'->K a' w')->o.wpIn Fence.wide n P a w K Q):jm n P md ops Q S N (fuel+1) listed a w:=by
 refine⟨fun h0=>TdI,fun j hj=>?_⟩;rw[hr]at hj;obtain rfl:j=i:=by simpa using hj
 unfold wpOpIn;simp only[hi,hw,ej];exact h _ (aa fun a' w' h1 h2=>⟨h1,h2⟩)
def xX(hr:BE md ops listed=[])(h:Q .normal a w):jm n P md ops Q S N 0 listed a w:=⟨hr,h⟩
def xI(hr:(execOp a.eval o).run P w=.ok (.enter f args) w')
  (h:Calls P f args w' fun e a5=>match e with|.returned v=>K (a.put o.dst v) a5|.panicked c=>Q (.panic c) a a5|.outgrown=>LetsOut Q):o.wpIn Fence.wide n P a w K Q:=by
 refine⟨fun _ _=>trivial,?_⟩;rw[tI,ub,hr];refine⟨fun q=>by simp[Fence.wide]at q,callsIn_wide.2 (h.mono fun e a5 q=>?_)⟩;cases e<;>exact q
def xx{l:Nat}{assign body:Code}(hr:(execOp a.eval o).run P w=.ok (.round l f tmps assign body) w')
  (h:RoundIn Fence.wide n' P l f tmps assign body w' fun e a5=>match e with|.returned v=>K (a.put o.dst v) a5|.panicked c=>Q (.panic c) a a5|.outgrown=>LetsOut Q):o.wpIn Fence.wide n P a w K Q:=by
 refine⟨fun _ _=>trivial,?_⟩;rw[tI,ub,hr];refine⟨fun q=>by simp[Fence.wide]at q,h.1,fun c cs _=>?_⟩;obtain⟨e,a5,q,r⟩:=h.2 c cs (room_wide _);exact⟨e,a5,by cases e<;>exact q,r⟩
def o6(hr:(execOp a.eval o).run P w=.ok (.value v) w')(h:K (a.put o.dst v) w'):o.wpIn Fence.wide n P a w K Q:=by
 refine⟨fun _ _=>trivial,?_⟩;rw[tI,ub,hr];exact h
end
variable {l n₀ k sz:Nat}{w A B:H7}{s n:Int}{α β:Type}{p:H5}{x:RU}{S T:Int->Prop}
noncomputable def EQ(n:Nat):Code:=((Tryz.f181.body.bind (kX n)).getD .skip)
def TdM(h:gt:=by go_simp):=h
def Tdt(h:gt:=by simp[World.cell?,e2,hs]):=h
def TeP(h:gt:=by simp[World.cell?,e3,ha]):=h
def lW{Bv Bs Ba:Nat}{log pool:H6}{len ch a8 mode:Int}{sp:IH}{sl sc:Nat}{R:Bool->H7->Prop}
  (hv:w.cell? Bv=Vv (By name)) (ha:w.1[Ba]?=Vv (Sx (Tat on s) 53 (0,0)))
  (hs:w.1[Bs]?=Vv (Sx (TaB st len kd al ap ac ch sl sp sc log pool a8 mode dn) 55 (0,0))) (h0:0<=len) (h1:len<=1000000) (hal:al<=1000) (a9:Bv<w.1.size)
  (hY:∀w',Below w.1.size w w'->YieldAt Fence.wide n' prog l #[Tk #[name,on,s,Bm Sj (iB kd len al)]] w' fun e w2=>∃go:Bool,e=S6 (Ft go)/\R go w2)
     (hQ:∀c (a:Act) (d:Tmp) (v:zY) w,Q (.panic c) (a.put (Vv d) v) w->Q (.panic c) a w)
  (HK:Hid (∀(go:Bool) (w':H7) (u43 u44 u45 u46 u47 u48 u49 u50 u51 u52 u53 u54 u55 u56 u57 u58:zY),R go w'->K ⟨#[.func (.yield l) #[] #[],c1,c2,c3,SL (Vv Bv),c5,SL (Vv Bs),c7,SL (Vv Ba),c9,c10,ZS,ao,Sf,TO,RK,RW,Rr,SO,Se,St,W0,ZD,Wg,Wr,To,UP,aE,ab,eS,da,dj,dq,fs,gE,ff,fb,fa,mT,me,ph,qe,qk,u43,u44,u45,u46,u47,u48,u49,u50,u51,u52,u53,u54,u55,u56,u57,u58,Ft (!go),yk,zd,zp],[]⟩ w')) :
  Code.wp prog (EQ 10) (Exit.then K Q) ⟨#[.func (.yield l) #[] #[],c1,c2,c3,SL (Vv Bv),c5,SL (Vv Bs),c7,SL (Vv Ba),c9,c10,ZS,ao,Sf,TO,RK,RW,Rr,SO,Se,St,W0,ZD,Wg,Wr,To,UP,aE,ab,eS,da,dj,dq,fs,gE,ff,fb,fa,mT,me,ph,qe,qk,mu,mw,mx,nF,pr,o4,oE,oR,oS,pe,qt,qv,rl,rm,sE,sa,sd,yk,zd,zp],[]⟩ w:=by
 conv=>arg 2;whnf
 have ae:=aq hs;have af:=aq ha;have HS:Hid (∀w':H7,w'.1[Bv]?=w.1[Bv]?->w'.1[Bs]?=w.1[Bs]?->w'.1[Ba]?=w.1[Ba]?->w'.cell? Bv=Vv (By name)/\w'.cell? Ba=Vv (Ft VN)/\w'.cell? (XM Ba 1)=Vv (By on)/\w'.cell? (XM Ba 2)=Vv (Bm Sj s)/\w'.cell? Bs=Vv (Bm Sj st)/\w'.cell? (XM Bs 1)=Vv (Bm Sj len)/\w'.cell? (XM Bs 2)=Vv (Bm Sj kd)/\w'.cell? (XM Bs 3)=Vv (FG ap al ac)/\w'.cell? (XM Bs 4)=Vv (Bm Sj ch)/\w'.cell? (XM Bs 5)=Vv (FG sp sl sc)/\w'.cell? (XM Bs 6)=Vv (By log)/\w'.cell? (XM Bs 7)=Vv (By pool)/\w'.cell? (XM Bs 8)=Vv (Bm Sj a8)/\w'.cell? (XM Bs 9)=Vv (Bm Sj mode)/\w'.cell? (XM Bs 10)=Vv (Bm Sj dn)):=aa fun w' e1 e2 e3=>⟨(cd (w:=w) e1).trans hv,TeP,TeP,TeP,Tdt,Tdt,Tdt,Tdt,Tdt,Tdt,Tdt,Tdt,Tdt,Tdt,Tdt⟩;replace hY:=aa hY;clear hv ha hs;refine wz 1 (fun w'=>w'.cell? Bv=Vv (By name)/\w'.cell? Ba=Vv (Ft VN)/\w'.cell? (XM Ba 1)=Vv (By on)/\w'.cell? (XM Ba 2)=Vv (Bm Sj s)/\w'.cell? Bs=Vv (Bm Sj st)/\w'.cell? (XM Bs 1)=Vv (Bm Sj len)/\w'.cell? (XM Bs 2)=Vv (Bm Sj kd)/\w'.cell? (XM Bs 3)=Vv (FG ap al ac)/\w'.cell? (XM Bs 4)=Vv (Bm Sj ch)/\w'.cell? (XM Bs 5)=Vv (FG sp sl sc)/\w'.cell? (XM Bs 6)=Vv (By log)/\w'.cell? (XM Bs 7)=Vv (By pool)/\w'.cell? (XM Bs 8)=Vv (Bm Sj a8)/\w'.cell? (XM Bs 9)=Vv (Bm Sj mode)/\w'.cell? (XM Bs 10)=Vv (Bm Sj dn)) 14 [] Yp (HS.o w lX rfl rfl) (fun a5=>?_)
 (refine bQ (i:=0) (v:=?_) lX rfl Yp (fun _ _ _ h=>hQ _ _ _ _ _ h) (Or.inl ⟨ZR,?_⟩) a5 ?_;rotate_left;(intro w fi;(try dsimp only at fi);go_simp;(try(with_reducible rfl)));(try simp only[aS]));(refine bQ (i:=1) (v:=?_) lX rfl Yp (fun _ _ _ h=>hQ _ _ _ _ _ h) (Or.inl ⟨ZR,?_⟩) a5 ?_;rotate_left;(intro w fi;(try dsimp only at fi);go_simp;(try(with_reducible rfl)));(try simp only[aS]));(refine bQ (i:=2) (v:=?_) lX rfl Yp (fun _ _ _ h=>hQ _ _ _ _ _ h) (Or.inl ⟨ZR,?_⟩) a5 ?_;rotate_left;(intro w fi;(try dsimp only at fi);go_simp;(try(with_reducible rfl)));(try simp only[aS]));(refine bQ (i:=3) (v:=?_) lX rfl Yp (fun _ _ _ h=>hQ _ _ _ _ _ h) (Or.inl ⟨ZR,?_⟩) a5 ?_;rotate_left;(intro w fi;(try dsimp only at fi);go_simp;(try(with_reducible rfl)));(try simp only[aS]));(refine bQ (i:=4) (v:=?_) lX rfl Yp (fun _ _ _ h=>hQ _ _ _ _ _ h) (Or.inl ⟨ZR,?_⟩) a5 ?_;rotate_left;(intro w fi;(try dsimp only at fi);go_simp;(try(with_reducible rfl)));(try simp only[aS]));(refine bQ (i:=5) (v:=?_) lX rfl Yp (fun _ _ _ h=>hQ _ _ _ _ _ h) (Or.inl ⟨ZR,?_⟩) a5 ?_;rotate_left;(intro w fi;(try dsimp only at fi);go_simp;(try(with_reducible rfl)));(try simp only[aS]));(refine bQ (i:=7) (v:=?_) lX rfl Yp (fun _ _ _ h=>hQ _ _ _ _ _ h) (Or.inl ⟨ZR,?_⟩) a5 ?_;rotate_left;(intro w fi;(try dsimp only at fi);go_simp;(try(with_reducible rfl)));(try simp only[aS]));(refine bQ (i:=9) (v:=?_) lX rfl Yp (fun _ _ _ h=>hQ _ _ _ _ _ h) (Or.inl ⟨ZR,?_⟩) a5 ?_;rotate_left;(intro w fi;(try dsimp only at fi);go_simp;(try(with_reducible rfl)));(try simp only[aS]));(refine bQ (i:=6) (v:=?_) lX rfl Yp (fun _ _ _ h=>hQ _ _ _ _ _ h) (Or.inl ⟨ZR,?_⟩) a5 ?_;rotate_left;(intro w fi;(try dsimp only at fi);go_simp;(try(with_reducible rfl)));(try simp only[aS]));(refine bQ (i:=8) (v:=?_) lX rfl Yp (fun _ _ _ h=>hQ _ _ _ _ _ h) (Or.inl ⟨ZR,?_⟩) a5 ?_;rotate_left;(intro w fi;(try dsimp only at fi);go_simp;(try(with_reducible rfl)));(try simp only[aS]));(refine bQ (i:=10) (v:=?_) lX rfl Yp (fun _ _ _ h=>hQ _ _ _ _ _ h) (Or.inl ⟨ZR,?_⟩) a5 ?_;rotate_left;(intro w fi;(try dsimp only at fi);go_simp;(try(with_reducible rfl)));(try simp only[aS]));(refine bQ (i:=11) (v:=?_) lX rfl Yp (fun _ _ _ h=>hQ _ _ _ _ _ h) (Or.inl ⟨ZR,?_⟩) a5 ?_;rotate_left;(intro w fi;(try dsimp only at fi);go_simp;(try(with_reducible rfl)));(try simp only[aS]))
 refine jh (i:=12) lX ZR Yp (fun K1 hK1=>?_);refine xI (f:=73) (args:=#[Tk (TaB st len kd al ap ac ch sl sp sc log pool a8 mode dn)]) (w':=w.drew) TdM ?_;refine(ji st len kd ch a8 mode dn ap sp al ac sl sc log pool w.drew h0 WQ WQ).mono ?_;rintro e w6 ⟨rfl,sh⟩;dsimp only;have hb:Below w.1.size w w6:=((bj _ w).drew).trans sh;have a7:=HS.o w6 (hb.block Bv a9) (hb.block Bs ae) (hb.block Ba af);refine hK1.o _ _ (fun _=>a7) ?_;clear hK1 K1 a5;simp only[Act.put,xT];have a5:=a7;clear a7;(refine bQ (i:=13) (v:=?_) lX rfl Yp (fun _ _ _ h=>hQ _ _ _ _ _ h) (Or.inl ⟨ZR,?_⟩) a5 ?_;rotate_left;(intro w fi;(try dsimp only at fi);go_simp;(try(with_reducible rfl)));(try simp only[Act.put]))
 obtain⟨fn,tmps,assign,body,hy,hR⟩:=hY.o w6 hb;refine jh (i:=14) lX ZR Yp (fun K1 hK1=>?_);refine xx (l:=l) (f:=fn) (tmps:=tmps) (assign:=assign) (body:=body) (w':=w6) TdM (hR.mono ?_);rintro e w7 ⟨go,rfl,Z8⟩;dsimp only;refine hK1.o _ _ (fun q=>by simp[needs]at q) ?_;clear hK1 K1;simp only[Act.put];refine jh (i:=15) lX ZR Yp (fun K1 hK1=>?_);refine o6 (v:=Ft (!go)) (w':=w7) TdM ?_;refine hK1.o _ _ (fun q=>by simp[needs]at q) ?_;clear hK1 K1;simp only[Act.put];refine jh (i:=16) lX ZR Yp (fun K1 hK1=>?_);refine o6 (v:=Ft (!go)) (w':=w7) TdM ?_;refine hK1.o _ _ (fun q=>by simp[needs]at q) ?_;clear hK1 K1;simp only[Act.put];refine xX Yp ?_;exact HK.o go w7 _ _ _ _ _ _ _ _ _ _ _ _ _ _ _ _ Z8
structure gy where
 vol:H6
 disk:H6
 start:Int
 len:Int
def TaU(x0:gy):Tab #[By x0.vol,By x0.disk,Bm Sj x0.start,Bm Sj x0.len]:=⟨⟩
def FN(x:gy):Array zY:=#[Tk (TaU x)]
def aJ(name:H6)(s:aB)(a:aR):gy:=⟨name,a.on,a.start,iB s.kind s.length (Wq s.Ga)⟩
def fP(s:aB):Prop:=s.kind=1\/s.kind=2\/s.kind=8
instance (s:aB):Decidable (fP s):=inferInstanceAs (Decidable (_\/_\/_))
def aK(name:H6)(s:aB):wy gy:=if fP s then s.Ga.map (aJ name s) else []
def aW(v:ay):wy gy:=v.Gf.flatMap (aK v.name)
def pieces(vs:wy ay):wy gy:=vs.flatMap aW
def qx(vs:wy ay):Prop:=∀v∈vs,Wq v.Gf<=1000/\∀s∈v.Gf,(0<=s.length/\s.length<=1000000)/\Wq s.Ga<=1000/\(fP s->∀a∈s.Ga,a.vol=VN)
def FW(t:TypeId):Bool:=t==46||t==55
def KpT(n₀:Nat)(W W':H7):Prop:=Below n₀ W W'/\∀(k:Nat) (cs:Array zY) (t:TypeId) (z:Nat × Nat),W.1[k]?=Vv (Sx cs t z)->FW t=VR->W'.1[k]?=W.1[k]?
def KpT.trans(h:KpT n₀ A B)(k:KpT n₀ B C):KpT n₀ A C:=⟨h.1.trans k.1,fun i cs t z e ht=>by
 have h1:=h.2 i cs t z e ht;exact(k.2 i cs t z (h1.trans e) ht).trans h1⟩
def KpT.of_below(h:Below A.1.size A B)(hn:n₀<=A.1.size):KpT n₀ A B:=⟨h.mono hn,fun i _cs _t _z e _=>h.block i (aq e)⟩
def cK(h:Below A.1.size A B):A.grownBy B VX:=⟨h.os,h.tape,h.output,h.size,fun k hk _=>h.block k hk⟩
def kz{R R':Ending->H7->Prop}(h:YieldAt F m P l args W R)(hR:∀e w,R e w->R' e w):YieldAt F m P l args W R':=by
 obtain⟨fn,tmps,assign,body,hy,h⟩:=h;exact⟨fn,tmps,assign,body,hy,h.mono hR⟩
def rz{l:wy α}{x:α}(h:l[k]?=Vv x)(f:α->wy β):l.flatMap f=(l.take k).flatMap f++(f x++(l.drop (k+1)).flatMap f):=by
 have hk:=(AT.1 h).1;have hx:=(AT.1 h).2;conv=>lhs;rw[<- rk k l,xt,tB hk,lB,hx]
def gq{l:wy α}{x:α}(h:l[k]?=Vv x)(f:α->wy β):(l.take (k+1)).flatMap f=(l.take k).flatMap f++f x:=by
 rw[take_snoc' l k x h];simp
def Fa{l:wy α}{x:α}(h:l[k]?=Vv x)(f:α->β):l.map f=(l.take k).map f++(f x :: (l.drop (k+1)).map f):=by
 have hk:=(AT.1 h).1;have hx:=(AT.1 h).2;conv=>lhs;rw[<- rk k l,gl,tB hk,iu,hx]
def sK{vs:wy ay}{v:ay}{s:aB}{a:aR}{q p:Nat}(hv:vs[k]?=Vv v)(hs:v.Gf[q]?=Vv s)(ha:s.Ga[p]?=Vv a)(ho:fP s) :
  ∃rest,pieces vs=(((vs.take k).flatMap aW++(v.Gf.take q).flatMap (aK v.name))++(s.Ga.take p).map (aJ v.name s))++(aJ v.name s a :: rest):=by
 refine⟨(s.Ga.drop (p+1)).map (aJ v.name s)++((v.Gf.drop (q+1)).flatMap (aK v.name)++(vs.drop (k+1)).flatMap aW),?_⟩;unfold pieces;rw[rz hv,show aW v=v.Gf.flatMap (aK v.name) from lX,rz hs,show aK v.name s=s.Ga.map (aJ v.name s) from aw ho,Fa ha];simp[cV]
def ck.elem{V:jx α}{ok:LN}{p:IH}{cap:Nat}{l:wy α}(h:ck V sz ok w [FG p l.length cap] l){x:α}(hk:l[k]?=Vv x) :
  ∃b off u,p=Vv ⟨b,off,VX⟩/\ok b/\b<w.1.size/\u.length=sz/\V ok w u x/\∀(j:Nat) (z:zY),u[j]?=Vv z->w.cell? ⟨b,off+k*sz+j,VX⟩=Vv z:=by
 obtain⟨p',a5,e,_,_,h3⟩:=h;obtain⟨b,off,rfl,hb,ho,hc⟩:=h3 (by have:=(AT.1 hk).1;omega);obtain⟨u,h1,h2,h3⟩:=hc k x hk;refine⟨b,off,u,?_,ho,hb,h1,h2,h3⟩;injection e with e;injection e with e
def ck.cap{V:jx α}{ok:LN}{l:wy α}(h:ck V sz ok w [v] l):∃p cap,v=FG p l.length cap/\l.length<=cap/\cap<=9223372036854775807:=by
 obtain⟨p,cap,e,h1,h2,_⟩:=h;exact⟨p,cap,IF.1 e,h1,h2⟩
def TaC(x0:aR):Tab #[Ft VN,By x0.on,Bm Sj x0.start]:=⟨⟩
def ZN(x0:aB)(x1:IH)(x2:Nat)(x3:IH)(x4:Nat):Tab #[Bm Sj x0.start,Bm Sj x0.length,Bm Sj x0.kind,FG x1 (Wq x0.Ga) x2,Bm Sj x0.chunk,FG x3 (Wq x0.stale) x4,By x0.log,By x0.pool,Bm Sj x0.device,Bm Sj x0.mode,Bm Sj x0.done]:=⟨⟩
def ZM(x0:ay)(x1:IH)(x2:Nat)(x3:IH)(x4:Nat):Tab #[By x0.name,Bm U8 x0.id,Ft x0.hidden,Ft x0.ro,FG x1 (Wq x0.tags) x2,FG x3 (Wq x0.Gf) x4]:=⟨⟩
def Ta3(h:gt:=by
 clear zE;go_wp2;clear k2 k3;go_loopw[39] (fun m wr3=>∃p:Nat,p<=Wq s.Ga/\m=Bm Sj p/\J (((vs.take k).flatMap aW++(v.Gf.take q).flatMap (aK v.name))++(s.Ga.take p).map (aJ v.name s)) wr3/\Below n₀ W wr3/\W.1.size<=wr3.1.size/\wr3.1[Bv]?=Vv (Sx (ZM v tp tc (Vv ⟨b2,off2,VX⟩) gc) 46 (0,0))/\wr3.1[Bs]?=Vv (Sx (ZN s ap ac sp sc) 55 (0,0))) (fun m _=>Wq s.Ga-(intOf m).toNat)
 exact⟨0,cg _,rfl,by simpa using TX.o,cm.o,HZ2.o,J0.o,lj.o⟩;obtain⟨p,hp,rfl,hJs,hB,hz,vA,gO⟩:=hrel;by_cases hlt3:p<Wq s.Ga
 ·obtain⟨a,ha⟩:=aj s.Ga p hlt3;have B4:=HTS.o E4.o a (ct ha);obtain⟨b3,off3,u3,rfl,B7,PV,pT,hva,mB⟩:=ya.o.elem ha;obtain rfl:u3=[Ft a.vol,By a.on,Bm Sj a.start]:=hva;rw[B4]at mB;have cT:wr.1[b3]?=W.1[b3]?:=hB.block b3 B7;have q0:=(cd (w:=W) (a:=⟨b3,off3+p*3,VX⟩) cT).trans (mB 0 _ lX);have q1:=(cd (w:=W) (a:=⟨b3,off3+p*3+1,VX⟩) cT).trans (mB 1 _ lX);have q2:=(cd (w:=W) (a:=⟨b3,off3+p*3+2,VX⟩) cT).trans (mB 2 _ lX);have hb3:=ae wr (Sx (TaC a) 53);have yb:=aa (b9 wr (Sx (TaC a) 53));have pZ:=aa ((hb3.block Bv (aq vA)).trans vA);have nB:=aa ((hb3.block Bs (aq gO)).trans gO);have QU:=aa (HJ.o _ _ _ VX hJs (cK hb3) (fun r e=>by cases e));have cJ:=aa (hB.trans (hb3.mono WQ));have HZ3:=aa (cA hz hb3.size);obtain⟨rest,od⟩:=sK HV.o B6.o ha E4.o;have CI:=aa od;clear od;have HA:=aa ha;clear ha;clear hJs hb3 vA gO mB cT pT B4;go_upto_region 10 with(fail);clear q0 q1 q2;generalize hW3:wr.alloc _=W3 at *;generalize aE3:wr.1.size=Ba at *;clear hW3 hB hz aE3;refine lW (n':=n-1) (name:=v.name) (on:=a.on) (s:=a.start) (R:=fun go w2=>(go=VR/\J ((((vs.take k).flatMap aW++(v.Gf.take q).flatMap (aK v.name))++(s.Ga.take p).map (aJ v.name s))++[aJ v.name s a]) w2/\KpT n₀ W3 w2)\/(go=VN/\Jx ((((vs.take k).flatMap aW++(v.Gf.take q).flatMap (aK v.name))++(s.Ga.take p).map (aJ v.name s))++[aJ v.name s a]) w2)) (by simp[World.cell?,pZ.o]) yb.o nB.o hl0 hl1 hal (aq pZ.o) ?_ (fun _ _ _ _ _ h=>h) (aa ?_)
  ·intro w' hb;refine kz (HY.o (((vs.take k).flatMap aW++(v.Gf.take q).flatMap (aK v.name))++(s.Ga.take p).map (aJ v.name s)) (aJ v.name s a) w' (HJ.o _ _ _ VX QU.o (cK hb) (fun r e=>by cases e)) (by have e:=fj List.length CI.o;rw[cD,cS]at e;omega)) (fun e w2 q=>?_);rcases q with⟨rfl,h1,h2⟩|⟨rfl,h1⟩
   ·exact⟨VR,rfl,.inl ⟨rfl,h1,(KpT.of_below hb (by have:=HZ3.o;omega)).trans h2⟩⟩
   exact⟨VN,rfl,.inr ⟨rfl,h1⟩⟩
  intro go w5 u43 u44 u45 u46 u47 u48 u49 u50 u51 u52 u53 u54 u55 u56 u57 u58 hR;rcases hR with⟨rfl,hJ5,hk5⟩|⟨rfl,ap9⟩
  ·have HJ5:=aa hJ5;clear hJ5;have HK5:=aa hk5;clear hk5;go_wp2;go_roundw;exact⟨p+1,WQ,Zf,by rw[take_snoc' _ _ _ HA.o,gl,<- cV];exact HJ5.o,cJ.o.trans HK5.o.1,cA HZ3.o HK5.o.1.size,(HK5.o.2 Bv _ _ _ pZ.o lX).trans pZ.o,(HK5.o.2 Bs _ _ _ nB.o lX).trans nB.o⟩;exact Ti
  have HJ5:=aa ap9;clear ap9;go_wp2;refine eC (results_none lX _ _ _) lX ⟨⟨_,rfl⟩,.inr ⟨_,⟨rest,?_⟩,HJ5.o⟩⟩;rw[CI.o,cV];rfl
 obtain rfl:p=Wq s.Ga:=by omega
 rw[cI]at hJs;have HJs:=aa hJs;clear hJs;have Qe:=aa vA;clear vA;have fl:=aa gO;clear gO;go_wp2;go_roundw;exact⟨q+1,WQ,Zf,by rw[gq B6.o,show aK v.name s=s.Ga.map (aJ v.name s) from aw E4.o,<- cV];exact HJs.o,hB,hz,Qe.o⟩;exact Ti):=h
def zh(n n₀ Bg:Nat)(w:H7)(vp:IH)(ag:Nat)(vs:wy ay)(hc:w.cell? (XM Bg 7)=Vv (FG vp vs.length ag))(am:Bg<w.1.size)(hn:n₀<=w.1.size)
  (hr:ck aN 6 (fun b=>b<n₀) w [FG vp vs.length ag] vs) (ht:qx vs) (mb:vs.length<=1000) :
  SeqStopsK Fence.wide n prog 181 #[SL (Vv Bg)] FN (KpT n₀) (fun xs=>xs=pieces vs) (fun pre=>pre <+: pieces vs) (pieces vs).length w:=by
 intro l J Jx W hW hJ Z9 hY h0;refine callsIn_wide.2 ?_;show Calls prog 181 #[.func (.yield l) #[] #[],SL (Vv Bg)] W _;have az:W.cell? (XM Bg 7)=Vv (FG vp vs.length ag):=(cd (w:=w) (hW.block Bg am)).trans hc;have HR:=aa ((ck.moves aN.moves).mv (ok':=fun b=>b<n₀) ⟨hW.size,fun b hb ho=>⟨ho,hW.block b hb⟩⟩ hr);have aA:=cA hn hW.size;have HT:=aa ht;have HY:=aa hY;have HJ:=aa hJ;clear hc hr ht hY hJ Z9;go_enter func181,ntmps181;go_wp2
 go_loopw[12] (fun i wr=>∃k:Nat,k<=vs.length/\i=Bm Sj k/\J ((vs.take k).flatMap aW) wr/\Below n₀ W wr/\W.1.size<=wr.1.size) (fun i _=>vs.length-(intOf i).toNat)
 exact⟨0,cg _,rfl,TdW,bj _ _,bk _⟩;obtain⟨k,hk,rfl,hJs,hB,hz⟩:=hrel;by_cases hlt:k<vs.length
 ·obtain⟨v,hv⟩:=aj vs k hlt;have Qd:=HT.o v (ct hv);have GF:=Qd.1;have Vc:=aa Qd.2;clear Qd;obtain⟨b,off,u,rfl,gR,cX,ez,sA,a7⟩:=HR.o.elem hv;obtain⟨tv,gv,rfl,ew,a9⟩:=sA;obtain⟨tp,tc,rfl,_,_⟩:=ew.cap;obtain⟨gp,gc,rfl,aB,aC⟩:=a9.cap;have cT:wr.1[b]?=W.1[b]?:=hB.block b gR;have q0:=(cd (w:=W) (a:=⟨b,off+k*6,VX⟩) cT).trans (a7 0 _ lX);have q1:=(cd (w:=W) (a:=⟨b,off+k*6+1,VX⟩) cT).trans (a7 1 _ lX);have q2:=(cd (w:=W) (a:=⟨b,off+k*6+2,VX⟩) cT).trans (a7 2 _ lX);have q3:=(cd (w:=W) (a:=⟨b,off+k*6+3,VX⟩) cT).trans (a7 3 _ lX);have q4:=(cd (w:=W) (a:=⟨b,off+k*6+4,VX⟩) cT).trans (a7 4 _ lX);have q5:=(cd (w:=W) (a:=⟨b,off+k*6+5,VX⟩) cT).trans (a7 5 _ lX);have HV:=aa hv;clear hv;replace a9:=aa a9;clear ew a7 ez cT;have ab:=ae wr (Sx (ZM v tp tc gp gc) 46);have zv:=aa (b9 wr (Sx (ZM v tp tc gp gc) 46));have ao:=aa (HJ.o _ _ _ VX hJs (cK ab) (fun r e=>by cases e));have cU:=aa (hB.trans (ab.mono WQ));have au:=aa (cA hz ab.size);clear ab;clear hJs;go_upto_block 2 with(fail)
  clear q0 q1 q2 q3 q4 q5;generalize RE:wr.alloc _=W1 at *;generalize Vd:wr.1.size=Bv at *;clear RE hB hz Vd;go_wp2;go_loopw[19] (fun j af=>∃q:Nat,q<=Wq v.Gf/\j=Bm Sj q/\J ((vs.take k).flatMap aW++(v.Gf.take q).flatMap (aK v.name)) af/\Below n₀ W af/\W.1.size<=af.1.size/\af.1[Bv]?=Vv (Sx (ZM v tp tc gp gc) 46 (0,0))) (fun j _=>Wq v.Gf-(intOf j).toNat)
  exact⟨0,cg _,rfl,by simpa using ao.o,cU.o,au.o,zv.o⟩;obtain⟨q,hq,rfl,hJs,hB,hz,vA⟩:=hrel;by_cases hlt2:q<Wq v.Gf
  ·obtain⟨s,hs⟩:=aj v.Gf q hlt2;have a8:=Vc.o s (ct hs);have hl0:=a8.1.1;have hl1:=a8.1.2;have hal:=a8.2.1;have HTS:=aa a8.2.2;clear a8;obtain⟨b2,off2,u2,rfl,I0,C2,B5,eE,a5⟩:=a9.o.elem hs;obtain⟨av,Rn,rfl,o0,QT⟩:=eE;obtain⟨ap,ac,rfl,aE,aF⟩:=o0.cap;obtain⟨sp,sc,rfl,_,_⟩:=QT.cap;have cT:wr.1[b2]?=W.1[b2]?:=hB.block b2 I0;have q0:=(cd (w:=W) (a:=⟨b2,off2+q*11,VX⟩) cT).trans (a5 0 _ lX);have q1:=(cd (w:=W) (a:=⟨b2,off2+q*11+1,VX⟩) cT).trans (a5 1 _ lX);have q2:=(cd (w:=W) (a:=⟨b2,off2+q*11+2,VX⟩) cT).trans (a5 2 _ lX);have q3:=(cd (w:=W) (a:=⟨b2,off2+q*11+3,VX⟩) cT).trans (a5 3 _ lX);have q4:=(cd (w:=W) (a:=⟨b2,off2+q*11+4,VX⟩) cT).trans (a5 4 _ lX);have q5:=(cd (w:=W) (a:=⟨b2,off2+q*11+5,VX⟩) cT).trans (a5 5 _ lX);have q6:=(cd (w:=W) (a:=⟨b2,off2+q*11+6,VX⟩) cT).trans (a5 6 _ lX);have q7:=(cd (w:=W) (a:=⟨b2,off2+q*11+7,VX⟩) cT).trans (a5 7 _ lX);have q8:=(cd (w:=W) (a:=⟨b2,off2+q*11+8,VX⟩) cT).trans (a5 8 _ lX);have q9:=(cd (w:=W) (a:=⟨b2,off2+q*11+9,VX⟩) cT).trans (a5 9 _ lX);have ak:=(cd (w:=W) (a:=⟨b2,off2+q*11+10,VX⟩) cT).trans (a5 10 _ lX);have B6:=aa hs;clear hs;have ya:=aa o0;clear o0;clear QT a5 B5 cT;have hb2:=ae wr (Sx (ZN s ap ac sp sc) 55);have lj:=aa (b9 wr (Sx (ZN s ap ac sp sc) 55));have J0:=aa ((hb2.block Bv (aq vA)).trans vA);have TX:=aa (HJ.o _ _ _ VX hJs (cK hb2) (fun r e=>by cases e));have cm:=aa (hB.trans (hb2.mono WQ));have HZ2:=aa (cA hz hb2.size);have k2:(wr.alloc (Sx (ZN s ap ac sp sc) 55)).cell? (XM wr.1.size 2)=Vv (Bm Sj s.kind):=aD lX rfl;have k3:(wr.alloc (Sx (ZN s ap ac sp sc) 55)).cell? (XM wr.1.size 3)=Vv (FG ap (Wq s.Ga) ac):=aD lX rfl;clear hJs hb2 vA;by_cases G0:fP s
   ·have C1:s.kind=1\/s.kind=2\/s.kind=8:=G0;have E4:=aa G0;clear G0;go_upto_region 6 with(fail);clear q0 q1 q2 q3 q4 q5 q6 q7 q8 q9 ak;generalize ah:wr.alloc _=W2 at *;generalize ai:wr.1.size=Bs at *;clear ah hB hz ai;rcases C1 with zE|zE|zE
    ·have Lk:(s.kind != 1)=VN:=by simp[zE]
     exact Ta3
    ·have Lk:(s.kind != 1)=VR:=by simp[zE]
     have QV:(s.kind != 2)=VN:=by simp[zE]
     exact Ta3
    have Lk:(s.kind != 1)=VR:=by simp[zE]
    have QV:(s.kind != 2)=VR:=by simp[zE]
    have Ve:(s.kind != 8)=VN:=by simp[zE]
    exact Ta3
   have n1:¬s.kind=1:=fun e=>G0 (.inl e)
   have n2:¬s.kind=2:=fun e=>G0 (.inr (.inl e));have n8:¬s.kind=8:=fun e=>G0 (.inr (.inr e));have Lk:(s.kind != 1)=VR:=by simpa using n1
   have QV:(s.kind != 2)=VR:=by simpa using n2
   have Ve:(s.kind != 8)=VR:=by simpa using n8
   clear n1 n2 n8;have E4:=aa G0;clear G0;go_upto_region 6 with(fail);clear q0 q1 q2 q3 q4 q5 q6 q7 q8 q9 ak;generalize ah:wr.alloc _=W2 at *;generalize ai:wr.1.size=Bs at *;clear ah hB hz ai;go_wp2;go_roundw;exact⟨q+1,WQ,Zf,by rw[gq B6.o,show aK v.name s=[] from bh E4.o,eM];exact TX.o,cm.o,HZ2.o,J0.o⟩;exact Ti
  obtain rfl:q=Wq v.Gf:=by omega
  rw[cI]at hJs;have HJs:=aa hJs;clear hJs;have Qe:=aa vA;clear vA;go_wp2;go_roundw;exact⟨k+1,WQ,Zf,by rw[gq HV.o];exact HJs.o,hB,hz⟩;exact Ti
 obtain rfl:k=vs.length:=by omega
 rw[cI]at hJs;go_wp2;go_end0
 exact⟨⟨_,rfl⟩,.inl ⟨_,rfl,hJs⟩⟩
def TcD(h:gt:=by
 go_wp2
 all_goals
  go_ret;exact⟨by simp[nT];try omega,(bj _ _).alloc (bk _) _⟩):=h
def AQ{s l:Int}:Calls prog 183 #[Tk #[s,l]] w fun e w'=>e=S6 (Ft (nT s l))/\Below w.1.size w w':=by
 go_enter func183,ntmps183;exact TcD
def Ir(s l:Int)(w:H7):Calls prog 159 #[Tk #[s,l]] w fun e w'=>e=S6 (Ft (nT s l))/\Below w.1.size w w':=by
 go_enter func159,ntmps159;exact TcD
def G6{l:Int}{b:Bool}(h:nT s l=b):Calls prog 159 #[Tk #[s,l]] w fun e w'=>e=S6 (Ft b)/\Below w.1.size w w':=h ▸ Ir s l w
def zA(l:RU)(k:Nat)(x:H5)(h:l[k]?=Vv x)(hv:nT x.1 x.2=VN):dI l=VN:=by
 unfold dI;rw[ap8];exact⟨x,ct h,by simp[hv]⟩
def Cm(l:RU)(k:Nat)(x:H5)(h:l[k]?=Vv x)(ha:dI (l.take k)=VR)(hv:nT x.1 x.2=VR):dI (l.take (k+1))=VR:=by
 rw[take_snoc' l k x h];unfold dI at *;rw[List.all_append,ha];simp[hv]
def Ce(l:RU)(k:Nat)(h:l.length<=k)(ha:dI (l.take k)=VR):dI l=VR:=by
 rw[jz h]at ha;exact ha
def Gp(l:RU)(n:Int):Bool:=l.any fun p=>nT p.1 p.2&&V7 (p.1<=n)&&V7 (n<p.1+p.2)
def Ib(l:RU)(k:Nat)(x:H5)(n:Int)(h:l[k]?=Vv x)(hv:nT x.1 x.2=VR)(h1:x.1<=n)(h2:n<x.1+x.2):Gp l n=VR:=by
 unfold Gp;rw[nh];exact⟨x,ct h,by simp[hv,h1,h2]⟩
def Gw(l:RU)(k:Nat)(x:H5)(n:Int)(h:l[k]?=Vv x)(ha:Gp (l.take k) n=VN)(hv:nT x.1 x.2=VN\/n<x.1\/x.1+x.2<=n):Gp (l.take (k+1)) n=VN:=by
 rw[take_snoc' l k x h];unfold Gp at *;rw[rj,ha];simp;intro a b;rcases hv with hv|hv|hv
 ·rw[hv]at a;cases a
 ·omega
 omega
def Ii(l:RU)(k:Nat)(n:Int)(h:l.length<=k)(ha:Gp (l.take k) n=VN):Gp l n=VN:=by
 rw[jz h]at ha;exact ha
def En{l:Int}(h:nT s l=VR):0<=s/\0<=l/\s<=1073741824/\l<=1073741824-s:=by
 unfold nT at h;simp at h;omega
def Gz(l:RU)(n:Int)(hn:n<=9223372036854775807)(hr:xo w v l):Calls prog 116 #[v,Bm Sj n] w fun e w'=>e=S6 (Ft (Gp l n))/\Below w.1.size w w':=by
 obtain⟨p,cap,rfl,a8,ij,hp⟩:=hr;go_enter func116,ntmps116;go_wp2
 go_loopw[5] (fun i wr=>∃k:Nat,k<=l.length/\i=Bm Sj k/\Gp (l.take k) n=VN/\Below w.1.size w wr) (fun i _=>l.length-(intOf i).toNat)
 exact⟨0,cg _,rfl,rfl,bj _ _⟩;obtain⟨k,hk,rfl,hall,hb⟩:=hrel;replace hall:=aa hall;by_cases hlt:k<l.length
 ·obtain⟨b,off,rfl,gO,hc⟩:=hp WQ;obtain⟨x,hx⟩:=aj l k hlt;have a5:=(hc.below hb gO) k x hx;have cX:b<wr.1.size:=cC gO hb.size;have a9:=aG cX a5.1;have ab:=aG cX a5.2;replace hx:=aa hx;clear hc hp a5;cases hv:nT x.1 x.2
  ·go_wp2_with fail;(refine aU Yp Yp ?_;(repeat(go_big_quiet_step ((go_at_call 159;exact iH (G6 hv)))));(with_reducible refine fR ?_);intro wq ia;have kq:=dY ia;clear ia)
   go_wp2;go_roundw;exact⟨k+1,WQ,Zf,Gw l k x n hx.o hall.o (.inl hv),mn hb kq⟩;exact Ti
  have a7:=En hv;obtain⟨ae,af,ag,ai⟩:=a7;by_cases h1:x.1<=n
  ·have ak:IntKind.i64.wrap (n-x.1)=n-x.1:=dy _ WQ;by_cases h2:n-x.1<x.2
   ·go_wp2_with fail;(refine aU Yp Yp ?_;(repeat(go_big_quiet_step ((go_at_call 159;exact iH (G6 hv)))));(with_reducible refine fR ?_);intro wq ia;have kq:=dY ia;clear ia)
    go_wp2;go_ret;exact⟨ah (Ib l k x n hx.o hv h1 WQ).symm,mn hb kq⟩
   have am:V7 (n-x.1<x.2)=VN:=by simp;omega
   go_wp2_with fail;(refine aU Yp Yp ?_;(repeat(go_big_quiet_step ((go_at_call 159;exact iH (G6 hv)))));(with_reducible refine fR ?_);intro wq ia;have kq:=dY ia;clear ia)
   go_wp2;go_roundw;exact⟨k+1,WQ,Zf,Gw l k x n hx.o hall.o (.inr (.inr WQ)),mn hb kq⟩;exact Ti
  have ao:V7 (x.1<=n)=VN:=by simp;omega
  go_wp2_with fail;(refine aU Yp Yp ?_;(repeat(go_big_quiet_step ((go_at_call 159;exact iH (G6 hv)))));(with_reducible refine fR ?_);intro wq ia;have kq:=dY ia;clear ia)
  go_wp2;go_roundw;exact⟨k+1,WQ,Zf,Gw l k x n hx.o hall.o (.inr (.inl WQ)),mn hb kq⟩;exact Ti
 go_wp2;go_ret;exact⟨ah (Ii l k n WQ hall.o).symm,hb⟩
def Mem(l:RU)(n:Int):Prop:=∃p∈l,p.1<=n/\n<p.1+p.2
def NF(x:RU):Prop:=(∀p∈x,1<=p.2)/\x.Pairwise fun p q=>p.1+p.2<q.1
def iE(x:RU)(S:Int->Prop):Prop:=NF x/\∀n,Mem x n↔S n
def jd(n:Int):¬Mem [] n:=by rintro⟨p,h,_⟩;cases h
def fK(p:H5)(l:RU)(n:Int):Mem (p :: l) n↔(p.1<=n/\n<p.1+p.2)\/Mem l n:=by
 unfold Mem;constructor
 ·rintro⟨q,hq,h⟩;rcases DQ.1 hq with rfl|hq
  ·exact .inl h
  exact .inr ⟨q,hq,h⟩
 rintro(h|⟨q,hq,h⟩)
 ·exact⟨p,XN,h⟩
 exact⟨q,TdZ,h⟩
def gH(a b:RU)(n:Int):Mem (a++b) n↔Mem a n\/Mem b n:=by
 unfold Mem;constructor
 ·rintro⟨q,hq,h⟩;rcases AS.1 hq with hq|hq
  ·exact .inl ⟨q,hq,h⟩
  exact .inr ⟨q,hq,h⟩
 rintro(⟨q,hq,h⟩|⟨q,hq,h⟩)
 ·exact⟨q,TdZ,h⟩
 exact⟨q,TdZ,h⟩
def ko(p:H5)(n:Int):Mem [p] n↔p.1<=n/\n<p.1+p.2:=by
 rw[fK];exact⟨fun h=>h.elim id (fun h=>absurd h (jd n)),.inl⟩
def yP:NF []:=⟨XN,XN⟩
def NF.tail(h:NF (p :: x)):NF x:=⟨fun q hq=>h.1 q TdZ,(IN.1 h.2).2⟩
def NF.head(h:NF (p :: x)):1<=p.2/\∀q∈x,p.1+p.2<q.1:=⟨h.1 p XN,(IN.1 h.2).1⟩
def NF.lo(h:NF (p :: x))(hn:Mem (p :: x) n):p.1<=n:=by
 obtain⟨q,hq,h1,_⟩:=hn;have hh:=h.head;rcases DQ.1 hq with rfl|hq
 ·exact h1
 have:=hh.2 q hq;omega
def NF.tailMem(h:NF (p :: x))(n:Int):Mem x n↔Mem (p :: x) n/\p.1+p.2<=n:=by
 rw[fK];constructor
 ·rintro⟨q,hq,h1,h2⟩;have:=h.head.2 q hq;exact⟨.inr ⟨q,hq,h1,h2⟩,WQ⟩
 rintro⟨h1|h1,h2⟩
 ·omega
 exact h1
def tX:∀(x y:RU),NF x->NF y->(∀n,Mem x n↔Mem y n)->x=y
 |[],[],_,_,_=>rfl
 |[],q :: y,_,hy,h=>by
  have hh:=hy.head;exact absurd ((h q.1).2 ((fK ..).2 (.inl ⟨WQ,WQ⟩))) (jd _)
 |p :: x,[],hx,_,h=>by
  have hh:=hx.head;exact absurd ((h p.1).1 ((fK ..).2 (.inl ⟨WQ,WQ⟩))) (jd _)
 |p :: x,q :: y,hx,hy,h=>by
  have hp:=hx.head;have hq:=hy.head;have a1:q.1<=p.1:=hy.lo ((h p.1).1 ((fK ..).2 (.inl ⟨WQ,WQ⟩)));have a2:p.1<=q.1:=hx.lo ((h q.1).2 ((fK ..).2 (.inl ⟨WQ,WQ⟩)));have b1:¬Mem (p :: x) (p.1+p.2):=by
   rw[fK];rintro(⟨_,h⟩|⟨r,hr,h1,_⟩)
   ·omega
   have:=hp.2 r hr;omega
  have b2:¬Mem (q :: y) (q.1+q.2):=by
   rw[fK];rintro(⟨_,h⟩|⟨r,hr,h1,_⟩)
   ·omega
   have:=hq.2 r hr;omega
  have c:p.2=q.2:=by
   rcases Int.lt_trichotomy p.2 q.2 with hlt|heq|Vo
   ·exact absurd ((h _).2 ((fK ..).2 (.inl ⟨WQ,WQ⟩))) b1
   ·exact heq
   exact absurd ((h _).1 ((fK ..).2 (.inl ⟨WQ,WQ⟩))) b2
  have e:p=q:=Prod.ext WQ c;subst e;rw[tX x y hx.tail hy.tail (fun n=>by rw[hx.tailMem,hy.tailMem,h n])]
def iE.eq{y:RU}(hx:iE x S)(hy:iE y T)(h:∀n,S n↔T n):x=y :=
 tX x y hx.1 hy.1 (fun n=>by rw[hx.2,hy.2,h n])
def iE.congr(hx:iE x S)(h:∀n,S n↔T n):iE x T:=⟨hx.1,fun n=>by rw[hx.2,h n]⟩
def cZ(a5:RU)(r:H5):RU :=
 if r.2=0 then a5 else
 match a5.getLast? with
 |none=>a5++[r]
 |some q=>if r.1<=q.1+q.2 then a5.dropLast++[(q.1,max q.2 (r.1+r.2-q.1))] else a5++[r]
def yw(l:wy α)(q:α)(h:l.getLast?=Vv q):l=l.dropLast++[q]:=by
 obtain⟨hne,e⟩:=List.getLast?_eq_some_iff.1 h;rw[e];simp
def qg(i:RU)(q:H5):NF (i++[q])↔NF i/\1<=q.2/\∀p∈i,p.1+p.2<q.1:=by
 unfold NF;rw[tP];simp;constructor
 ·rintro⟨h1,h2,h3⟩;exact⟨⟨fun a b h=>h1 a b (.inl h),h2⟩,h1 q.1 q.2 (.inr lX),h3⟩
 rintro⟨⟨h1,h2⟩,h3,h4⟩;refine⟨fun a b h=>?_,h2,h4⟩;rcases h with h|h
 ·exact h1 a b h
 subst h;exact h3
def uQ(a5:RU)(r:H5)(hn:NF a5)(h0:0<=r.2)(hs:∀q∈a5,q.1<=r.1) :
  NF (cZ a5 r)/\(∀n,Mem (cZ a5 r) n↔Mem a5 n\/(r.1<=n/\n<r.1+r.2))/\∀q∈cZ a5 r,q.1<=r.1:=by
 unfold cZ;by_cases hz:r.2=0
 ·rw[aw hz];refine⟨hn,fun n=>⟨.inl,fun h=>h.elim id fun h=>by omega⟩,hs⟩
 rw[bh hz]
 cases hl:a5.getLast? with
 |none =>
  rw[List.getLast?_eq_none_iff]at hl;subst hl;refine⟨⟨ZY,XN⟩,fun n=>?_,XN⟩;show Mem ([]++[r]) n↔_;rw[gH,ko]
 |some q =>
  have he:=yw a5 q hl;generalize a5.dropLast=i at he;subst he;rw[qg]at hn;obtain⟨h1,h2,h3⟩:=hn;have T9:=hs q XN;by_cases hc:r.1<=q.1+q.2
  ·simp only[hc,ej];refine⟨(qg _ _).2 ⟨h1,by simp only[];omega,h3⟩,fun n=>?_,fun p hp=>?_⟩
   ·rw[gH,gH,ko,ko];simp only[];constructor
    ·rintro(h|⟨ha,hb⟩)
     ·exact .inl (.inl h)
     by_cases hq:n<q.1+q.2
     ·exact .inl (.inr ⟨ha,hq⟩)
     exact .inr ⟨WQ,WQ⟩
    rintro((h|⟨ha,hb⟩)|⟨ha,hb⟩)
    ·exact .inl h
    ·exact .inr ⟨ha,WQ⟩
    exact .inr ⟨WQ,WQ⟩
   rcases AS.1 hp with hp|hp
   ·exact hs p (by simp[hp])
   simp at hp;subst hp;exact T9
  simp only[hc,fY];refine⟨(qg _ _).2 ⟨(qg _ _).2 ⟨h1,h2,h3⟩,WQ,fun p hp=>?_⟩,fun n=>by rw[gH,ko],fun p hp=>?_⟩
  ·rcases AS.1 hp with hp|hp
   ·have:=h3 p hp;omega
   simp at hp;subst hp;omega
  rcases AS.1 hp with hp|hp
  ·exact hs p hp
  simp at hp;subst hp;omega
def merge(l:RU):RU:=l.foldl cZ []
def fQ(l:RU)(r:H5):merge (l++[r])=cZ (merge l) r:=by simp[merge]
def Dc(l:RU)(hs:l.Pairwise fun p q=>p.1<=q.1)(h0:∀p∈l,0<=p.2) :
  NF (merge l)/\(∀n,Mem (merge l) n↔Mem l n)/\∀q∈merge l,∃p∈l,q.1<=p.1:=by
 induction hr:l.length generalizing l with
 |zero =>
  have:l=[]:=fX hr;subst this;exact⟨yP,fun n=>Iff.rfl,by simp[merge]⟩
 |succ m ih =>
  have hne:l≠[]:=by rintro rfl;simp at hr
  obtain⟨i,r,rfl⟩:∃i r,l=i++[r]:=⟨l.dropLast,l.getLast hne,(List.dropLast_concat_getLast hne).symm⟩;rw[tP]at hs;obtain⟨s1,_,s3⟩:=hs;obtain⟨a,b,c⟩:=ih i s1 (fun p hp=>h0 p (by simp[hp])) (by simp at hr;omega);rw[fQ]
  obtain⟨a',b',c'⟩:=uQ (merge i) r a (h0 r XN) (fun q hq=>by
   obtain⟨p,hp,h⟩:=c q hq;have:=s3 p hp r XN;omega)
  refine⟨a',fun n=>?_,fun q hq=>⟨r,XN,c' q hq⟩⟩;rw[b',b,gH,ko]
def zL(l s:RU)(hp:s.Perm l)(hs:s.Pairwise fun p q=>p.1<=q.1)(h0:∀p∈l,0<=p.2):iE (merge s) (Mem l):=by
 obtain⟨a,b,_⟩:=Dc s hs (fun p h=>h0 p (hp.mem_iff.1 h));refine⟨a,fun n=>(b n).trans ?_⟩;unfold Mem;exact⟨fun⟨p,h,k⟩=>⟨p,hp.mem_iff.1 h,k⟩,fun⟨p,h,k⟩=>⟨p,hp.mem_iff.2 h,k⟩⟩
def kO(l:RU)(n:Int):Bool:=l.any fun p=>V7 (p.1<=n)&&V7 (n<p.1+p.2)
def fe(l:RU)(n:Int):kO l n=VR↔Mem l n:=by
 unfold kO Mem;rw[nh];simp
def Nf{a b:RU}(h:Mem a n↔Mem b n):kO a n=kO b n:=by
 rw[mN,fe,fe,h]
def EK(hx:NF x)(i:Nat)(n:Int)(h1:∀p∈x.take i,p.1+p.2<=n)(h2:∀y,x[i]?=Vv y->n<y.1+y.2) :
  kO x n=VR↔∃y,x[i]?=Vv y/\y.1<=n:=by
 rw[fe];constructor
 ·rintro⟨p,hp,ha,hb⟩;obtain⟨j,hj⟩:=fc hp;have nr:i<=j:=by
   rcases mm j i with h|h
   ·have:=h1 p (List.mem_iff_getElem?.2 ⟨j,by rw[ri h];exact hj⟩);omega
   exact h
  rcases B0 nr with e|hlt
  ·subst e;exact⟨p,hj,ha⟩
  obtain⟨vt,a7⟩:=AT.1 hj;have a5:i<x.length:=by omega
  have Ua:=It.1 hx.2 i j a5 vt hlt;have hy:=lO a5;have h3:=h2 _ hy;rw[a7]at Ua;omega
 rintro⟨y,hy,hle⟩;exact⟨y,ct hy,hle,h2 y hy⟩
def Gf:PI->(Int->Bool)->RU
 |p :: q :: t,f=>(if f p then [(p,q-p)] else [])++Gf (q :: t) f
 |_,_=>[]
def uh(f:Int->Bool)(p q:Int):∀l:PI,Gf (l++[p,q]) f=Gf (l++[p]) f++(if f p then [(p,q-p)] else [])
 |[]=>by simp[Gf]
 |[a]=>by simp[Gf]
 |a :: b :: t=>by
  have:=uh f p q (b :: t);simp only[IT,Gf]at this ⊢;rw[this,cV]
def tu(P:PI)(f:Int->Bool)(m:Nat)(p q:Int)(hp:P[m]?=Vv p)(hq:P[m+1]?=Vv q):Gf (P.take (m+2)) f=Gf (P.take (m+1)) f++(if f p then [(p,q-p)] else []):=by
 obtain⟨h1,e1⟩:=AT.1 hp;obtain⟨h2,e2⟩:=AT.1 hq;rw[af1 (show m+1<P.length by omega),af1 (show m<P.length by omega),e1,e2,cV];exact uh f p q (P.take m)
def iY(l:RU)(p q n:Int)(hno:∀r∈l,(r.1<=p\/q<=r.1)/\(r.1+r.2<=p\/q<=r.1+r.2))(h1:p<=n)(h2:n<q):Mem l n↔Mem l p:=by
 constructor
 ·rintro⟨r,hr,ha,hb⟩;have:=hno r hr;exact⟨r,hr,WQ,WQ⟩
 rintro⟨r,hr,ha,hb⟩;have:=hno r hr;exact⟨r,hr,WQ,WQ⟩
def TdL(h:gt:=by simpa using h1):=h
def xA(f:Int->Bool):∀(P:PI) (n:Int),P.Pairwise (·<·)->(Mem (Gf P f) n↔∃(i:Nat) (p q:Int),P[i]?=Vv p/\P[i+1]?=Vv q/\p<=n/\n<q/\f p=VR)
 |[],n,_=>by
  constructor
  ·intro h;exact absurd h (jd n)
  rintro⟨i,p,q,h,_⟩;simp at h
 |[a],n,_=>by
  constructor
  ·intro h;exact absurd h (jd n)
  rintro⟨i,p,q,_,h,_⟩;simp at h
 |a :: b :: t,n,hs=>by
  have ih:=xA f (b :: t) n (IN.1 hs).2;rw[Gf,gH,ih];constructor
  ·rintro(h|⟨i,p,q,h⟩)
   ·by_cases hf:f a=VR
    ·simp only[hf,ej]at h;rw[ko]at h;exact⟨0,a,b,rfl,rfl,h.1,by have:=h.2;simp only[]at this;omega,hf⟩
    simp only[hf]at h;exact absurd h (jd n)
   exact⟨i+1,p,q,Tdx⟩
  rintro⟨i,p,q,h1,h2,h3,h4,h5⟩
  cases i with
  |zero =>
   simp at h1 h2;subst h1 h2;refine .inl ?_;simp only[h5,ej];rw[ko];exact⟨h3,by simp only[];omega⟩
  |succ i=>exact .inr ⟨i,p,q,TdL,by simpa using h2,h3,h4,h5⟩
def kS:∀(P:PI) (n:Int),P.Pairwise (·<·)->(∃p∈P,p<=n)->(∃q∈P,n<q)->∃(i:Nat) (p q:Int),P[i]?=Vv p/\P[i+1]?=Vv q/\p<=n/\n<q
 |[],_,_,⟨p,hp,_⟩,_=>by cases hp
 |[a],n,_,⟨p,hp,h1⟩,⟨q,hq,h2⟩=>by simp at hp hq;omega
 |a :: b :: t,n,hs,⟨p,hp,h1⟩,⟨q,hq,h2⟩=>by
  have a5:=IN.1 hs;by_cases hb:n<b
  ·refine⟨0,a,b,rfl,rfl,?_,hb⟩;rcases DQ.1 hp with rfl|hp
   ·exact h1
   have:=a5.1 p hp;omega
  obtain⟨i,p',q',e1,e2,e3⟩:=kS (b :: t) n a5.2 ⟨b,XN,WQ⟩ (by
   rcases DQ.1 hq with rfl|hq
   ·have:=a5.1 b XN;omega
   exact⟨q,hq,h2⟩)
  exact⟨i+1,p',q',by simpa using e1,by simpa using e2,e3⟩
def d9{P:PI}(hs:P.Pairwise (·<·)){p q t:Int}(hp:P[i]?=Vv p)(hq:P[i+1]?=Vv q)(ht:t∈P):t<=p\/q<=t:=by
 obtain⟨j,hj⟩:=fc ht;obtain⟨h1,e1⟩:=AT.1 hp;obtain⟨h2,e2⟩:=AT.1 hq;obtain⟨h3,e3⟩:=AT.1 hj;rw[It]at hs;rcases Nat.lt_trichotomy j i with h|h|h
 ·left;have:=hs j i h3 h1 h;omega
 ·subst h;left;omega
 right
 rcases B0 (show i+1<=j by omega)with h4|h4
 ·subst h4;omega
 have:=hs (i+1) j h2 h3 h4;omega
def xD(a b:RU)(c:Bool->Bool->Bool)(h0:c VN VN=VN)(P:PI)(hs:P.Pairwise (·<·))(hP:∀r,r∈a\/r∈b->r.1∈P/\r.1+r.2∈P)(n:Int) :
  Mem (Gf P fun t=>c (kO a t) (kO b t)) n↔c (kO a n) (kO b n)=VR:=by
 rw[xA _ P n hs];constructor
 ·rintro⟨i,p,q,h1,h2,h3,h4,h5⟩;have ha:=iY a p q n (fun r hr=>⟨d9 hs h1 h2 (hP r (.inl hr)).1,d9 hs h1 h2 (hP r (.inl hr)).2⟩) h3 h4;have hb:=iY b p q n (fun r hr=>⟨d9 hs h1 h2 (hP r (.inr hr)).1,d9 hs h1 h2 (hP r (.inr hr)).2⟩) h3 h4;rw[Nf (a:=a) (b:=a) Iff.rfl]at h5;have e1:kO a n=kO a p:=by rw[mN,fe,fe,ha]
  have e2:kO b n=kO b p:=by rw[mN,fe,fe,hb]
  rw[e1,e2];exact h5
 intro h;have hm:Mem a n\/Mem b n:=by
  cases ha:kO a n with
  |true=>exact .inl ((fe a n).1 ha)
  |false =>
   cases hb:kO b n with
   |true=>exact .inr ((fe b n).1 hb)
   |false=>rw[ha,hb,h0]at h;cases h
 obtain⟨r,hr,h1,h2⟩:∃r,(r∈a\/r∈b)/\r.1<=n/\n<r.1+r.2:=by
  rcases hm with⟨r,hr,h⟩|⟨r,hr,h⟩
  ·exact⟨r,.inl hr,h⟩
  exact⟨r,.inr hr,h⟩
 obtain⟨i,p,q,e1,e2,e3,e4⟩:=kS P n hs ⟨_,(hP r hr).1,h1⟩ ⟨_,(hP r hr).2,h2⟩;have ha:=iY a p q n (fun r hr=>⟨d9 hs e1 e2 (hP r (.inl hr)).1,d9 hs e1 e2 (hP r (.inl hr)).2⟩) e3 e4;have hb:=iY b p q n (fun r hr=>⟨d9 hs e1 e2 (hP r (.inr hr)).1,d9 hs e1 e2 (hP r (.inr hr)).2⟩) e3 e4;refine⟨i,p,q,e1,e2,e3,e4,?_⟩;have f1:kO a n=kO a p:=by rw[mN,fe,fe,ha]
 have f2:kO b n=kO b p:=by rw[mN,fe,fe,hb]
 show c (kO a p) (kO b p)=VR;rw[<- f1,<- f2];exact h
def uq(f:Int->Bool):∀(P:PI),P.Pairwise (·<·)->∀r∈Gf P f,r.1∈P/\r.1+r.2∈P/\1<=r.2
 |[],_,r,h=>by cases h
 |[a],_,r,h=>by cases h
 |a :: b :: t,hs,r,h=>by
  have a5:=IN.1 hs;rw[Gf]at h;rcases AS.1 h with h|h
  ·by_cases hf:f a=VR
   ·simp only[hf,ej,AM]at h;subst h;have:=a5.1 b XN;exact⟨XN,by simp only[];rw[show a+(b-a)=b by omega];simp,by simp only[];omega⟩
   simp only[hf]at h;cases h
  have:=uq f (b :: t) a5.2 r h;exact⟨by simp[this.1],by have h2:=this.2.1;exact kn _ h2,this.2.2⟩
def wJ(f:Int->Bool):∀(P:PI),(Gf P f).length<=P.length
 |[]=>by simp[Gf]
 |[a]=>by simp[Gf]
 |a :: b :: t=>by
  have:=wJ f (b :: t);rw[Gf];split<;>simp at * <;> omega
def Jg(d:Array Int)(hd:∀i j,i<j->j<d.size->d[i]! <= d[j]!)(m:Nat)(hm:m<=d.size) :
  (No d m).Pairwise (·<·)/\(∀n,n∈No d m↔∃j,j<m/\d[j]! = n):=by
 induction m with
 |zero=>simp[No]
 |succ m ih =>
  obtain⟨h1,h2⟩:=ih WQ;rw[Lib.compactUpTo_succ];by_cases hk:Lib.keeps d m=VR
  ·simp only[hk,ej];refine⟨?_,fun n=>?_⟩
   ·rw[tP];refine⟨h1,XN,fun x hx y hy=>?_⟩;simp at hy;subst hy;obtain⟨j,hj,rfl⟩:=(h2 x).1 hx;have hle:=hd j m hj WQ;have a5:m≠0:=by omega
    have hne:d[m]! ≠ d[m-1]! := by
     unfold Lib.keeps at hk;simp[a5]at hk;simpa using hk
    have h3:d[m-1]! <= d[m]! := hd (m-1) m WQ WQ;rcases B0 (show j<=m-1 by omega)with e|e
    ·subst e;omega
    have:=hd j (m-1) e WQ;omega
   rw[oT,h2];constructor
   ·rintro(⟨j,hj,e⟩|h)
    ·exact⟨j,WQ,e⟩
    simp at h;exact⟨m,WQ,by simp[h]⟩
   rintro⟨j,hj,e⟩;rcases B0 (show j<=m by omega)with e'|e'
   ·subst e';right;simp[e]
   left;exact⟨j,e',e⟩
  simp only[hk];have a5:0<m:=by
   rcases Nat.eq_zero_or_pos m with e|e
   ·subst e;exact absurd (Lib.keeps_lt_one d 0 WQ) hk
   exact e
  have heq:d[m]! = d[m-1]! := by
   by_cases h:d[m]! = d[m-1]!
   ·exact h
   exact absurd (Lib.keeps_pos h) hk
  refine⟨TdL,fun n=>?_⟩;simp only[pj,fY,eM];rw[h2];constructor
  ·rintro⟨j,hj,e⟩;exact⟨j,WQ,e⟩
  rintro⟨j,hj,e⟩;rcases B0 (show j<=m by omega)with e'|e'
  ·subst e';exact⟨j-1,WQ,by rw[<- heq];exact e⟩
  exact⟨j,e',e⟩
def qi(h:zs.Pairwise (·<=·)):(Iv zs).Pairwise (·<·)/\∀n,n∈Iv zs↔n∈zs:=by
 have:=Jg zs.toArray (fun i j hij hj=>by
  have a5:j<zs.length:=by simpa using hj
  have h1:=It.1 h i j WQ a5 hij;simpa[oB,show i<zs.length by omega,a5]using h1) zs.length XN
 refine⟨this.1,fun n=>(this.2 n).trans ?_⟩;constructor
 ·rintro⟨j,hj,e⟩;rw[<- e];simp[oB,hj]
 intro hn;obtain⟨j,hj⟩:=fc hn;obtain⟨h1,h2⟩:=AT.1 hj;exact⟨j,h1,by simp[hj]⟩
def qz(a5:RU)(r:H5):RU :=
 match a5.getLast? with
 |none=>a5++[r]
 |some q=>if q.1+q.2=r.1 then a5.dropLast++[(q.1,q.2+r.2)] else a5++[r]
def glue(l:RU):RU:=l.foldl qz []
def Gx(l:RU)(r:H5):glue (l++[r])=qz (glue l) r:=by simp[glue]
def GM{a5:RU}{r:H5}(h1:1<=r.2)(h:∀q∈a5,q.1+q.2<=r.1):qz a5 r=cZ a5 r:=by
 unfold qz cZ;rw[bh WQ];cases hl:a5.getLast? with
 |none=>rfl
 |some q =>
  have hq:=h q (List.mem_of_getLast? hl);simp only[];by_cases he:q.1+q.2=r.1
  ·rw[aw he,aw WQ];congr 3
   omega
  rw[bh he,bh WQ]
def Row(l:RU):Prop:=(∀p∈l,1<=p.2)/\l.Pairwise fun p q=>p.1+p.2<=q.1
def Row.starts{l:RU}(h:Row l):l.Pairwise fun p q=>p.1<=q.1:=by
 have h2:=h.2;have h1:=h.1;clear h;induction l with
 |nil=>exact List.Pairwise.nil
 |cons p l ih =>
  rw[IN]at h2 ⊢;refine⟨fun q hq=>?_,ih h2.2 (fun q hq=>h1 q TdZ)⟩;have:=h2.1 q hq;have:=h1 p XN;omega
def GA(l:RU)(h:Row l):glue l=merge l:=by
 induction hr:l.length generalizing l with
 |zero =>
  have:l=[]:=fX hr;subst this;rfl
 |succ m ih =>
  have hne:l≠[]:=by rintro rfl;simp at hr
  obtain⟨i,r,rfl⟩:∃i r,l=i++[r]:=⟨l.dropLast,l.getLast hne,(List.dropLast_concat_getLast hne).symm⟩;have hp:=h.2;rw[tP]at hp;have hi:Row i:=⟨fun p hp=>h.1 p (by simp[hp]),hp.1⟩;rw[Gx,fQ,ih i hi (by simp at hr;omega)];obtain⟨a,b,_⟩:=Dc i hi.starts (fun p hp=>by have:=hi.1 p hp;omega);refine GM (h.1 r XN) (fun q hq=>?_);have h1:=a.1 q hq;obtain⟨s,hs,_,hs2⟩:=(b (q.1+q.2-1)).1 ⟨q,hq,WQ,WQ⟩;have:=hp.2.2 s hs r XN;omega
def GH(f:Int->Bool):∀(P:PI),P.Pairwise (·<·)->Row (Gf P f)
 |[],_=>⟨by simp[Gf],by simp[Gf]⟩
 |[a],_=>⟨by simp[Gf],by simp[Gf]⟩
 |a :: b :: t,hs=>by
  have a5:=IN.1 hs;have ih:=GH f (b :: t) a5.2;have hab:=a5.1 b XN;rw[Gf];by_cases hf:f a=VR
  ·simp only[hf,ej,List.singleton_append];refine⟨fun p hp=>?_,IN.2 ⟨fun q hq=>?_,ih.2⟩⟩
   ·rcases DQ.1 hp with rfl|hp
    ·simp only[];omega
    exact ih.1 p hp
   have h1:=(uq f (b :: t) a5.2 q hq).1;simp only[];rcases DQ.1 h1 with h2|h2
   ·omega
   have:=(IN.1 a5.2).1 _ h2;omega
  simp only[hf];simpa using ih
def GX(P:PI)(f:Int->Bool)(hs:P.Pairwise (·<·)):NF (glue (Gf P f))/\∀n,Mem (glue (Gf P f)) n↔Mem (Gf P f) n:=by
 have h:=GH f P hs;rw[GA _ h];obtain⟨a,b,_⟩:=Dc _ h.starts (fun p hp=>by have:=h.1 p hp;omega);exact⟨a,b⟩
def GV(o:RU)(r:H5):(qz o r).length<=o.length+1:=by
 unfold qz;split
 ·simp
 split
 ·simp only[cD,List.length_dropLast,A4];omega
 simp
def Io(l:RU):(glue l).length<=l.length:=by
 induction hr:l.length generalizing l with
 |zero =>
  have:l=[]:=fX hr;subst this;simp[glue]
 |succ m ih =>
  have hne:l≠[]:=by rintro rfl;simp at hr
  obtain⟨i,r,rfl⟩:∃i r,l=i++[r]:=⟨l.dropLast,l.getLast hne,(List.dropLast_concat_getLast hne).symm⟩;rw[Gx];have:=GV (glue i) r;have:=ih i (by simp at hr;omega);omega
def GN(kind:Int)(x y:Bool):Bool:=if kind=0 then x||y else if kind=1 then x&&!y else x&&y
open Go.Sort
variable {w:H7}{B g n:Nat}{v:zY}{l:RU}{os:Array Obj}
def encR(x:H5):RH:=[Bm Sj x.1,Bm Sj x.2]
def oU(l:RU):flatK encR 2 l.toArray=(bU l).toArray:=by
 apply Array.ext_getElem?;intro t
 by_cases ht:t<l.length*2
 ·have h1:(flatK encR 2 l.toArray)[t]?=Vv ((encR l.toArray[t/2]!)[t%2]!):=by
   rw[aa0 TdV];have:=get_flatK encR 2 l.toArray t TdV;rw[oB _ t TdV]at this;rw[this]
  rw[h1];obtain⟨x,hx⟩:=aj l (t/2) WQ;have hg:=kr l (t/2) x hx;have a5:l.toArray[t/2]! = x:=by simp[hx]
  rw[a5];rcases Nat.mod_two_eq_zero_or_one t with hm|hm
  ·rw[hm];have:t/2*2=t:=by omega
   rw[this]at hg;simpa[encR]using hg.1.symm
  rw[hm];have:t/2*2+1=t:=by omega
  rw[this]at hg;simpa[encR]using hg.2.symm
 rw[xp TdV,xp (by simp[dx];omega)]
def bM.holds(h:bM w B v l)(hne:0<l.length) :
  ∃g cap,v=FG (Vv ⟨g,0,VX⟩) l.length cap/\B<=g/\g<w.1.size/\l.length<=cap/\HoldsK encR 2 w g 0 l.toArray:=by
 obtain⟨h1,h2⟩:=h;rcases h2 with⟨_,hn⟩|⟨g,cap,a5,rfl,hb,hg,vr,hcm,a8,ht⟩
 ·omega
 refine⟨g,cap,rfl,hb,(F1.1 hg).1,vr,?_⟩;unfold HoldsK;rw[oU];intro j hj;have a7:j<l.length*2:=by simpa[dx]using hj
 refine⟨?_,by simp[BT,hg]⟩;have e1:(a5.toList.take (l.length*2))[j]?=(bU l)[j]?:=by rw[ht]
 rw[xF,aw a7,Array.getElem?_toList]at e1;simp only[AN,hg,eJ];simp only[Option.isSome_none,pj,fY];rw[e1,lO (by simpa using hj)];simp[oB,show j<(bU l).length by simpa using hj]
def TbR(h:gt:=by
 ·refine⟨rfl,rfl,rfl,XN,fun k hk=>?_⟩;rw[heap_grow_old _ _ ZY];simp[putRow,mapBlock,Sort.ahead,BW,show g≠k by omega]):=h
def Tct(h:gt:=by
 rw[heap_grow_old _ _ Tex];simp[putRow,mapBlock,Sort.ahead,BW,hg,onCells]):=h
def bM.sorted{cap:Nat}{s:RU}(h:bM w B (FG (Vv g) l.length cap) l)(hs:s.length=l.length) :
  bM (sortWorldK encR 2 w g 0 n s.toArray os) B (FG (Vv g) l.length cap) s/\Below B w (sortWorldK encR 2 w g 0 n s.toArray os):=by
 unfold sortWorldK putRowK;rw[oU];rcases h.2 with⟨e0,_⟩|⟨g',a8,a5,e0,hb,hg,hn,hm,a7,ht⟩
 ·cases e0
 injection e0 with e1 _ e3;injection e1 with e1;injection e1 with e1;subst e1;subst e3;have hlt:g<w.1.size:=(F1.1 hg).1;refine⟨⟨by rw[dx],.inr ⟨g,cap,putCells id 0 (bU s).toArray a5,by rw[hs],hb,?_,WQ,hm,by simpa[putCells]using a7,?_⟩⟩,?_⟩
 ·exact Tct
 ·have a9:=dx s;apply Bk;intro j;rw[xF,Array.getElem?_toList]
  by_cases hj:j<s.length*2
  ·have Vp:j<a5.size:=by rw[a7];omega
   simp only[aw hj,putCells,Array.getElem?_mapIdx,aa0 Vp,Option.map_some];rw[aw ZY,lO WQ];simp[oB,show j<(bU s).length by omega]
  simp only[bh hj];rw[xj WQ]
 exact TbR
def eG.sorted{cap:Nat}{l s:PI}(h:eG w B (FG (Vv g) l.length cap) l)(hs:s.length=l.length) :
  eG (grow (putRow (Bm Sj) (Sort.ahead w n) g 0 s.toArray) os) B (FG (Vv g) l.length cap) s/\Below B w (grow (putRow (Bm Sj) (Sort.ahead w n) g 0 s.toArray) os):=by
 rcases h.2 with⟨e0,_⟩|⟨g',a7,a5,e0,hb,hg,hn,hm,a8,ht⟩
 ·cases e0
 injection e0 with e1 _ e3;injection e1 with e1;injection e1 with e1;subst e1;subst e3;have hlt:g<w.1.size:=(F1.1 hg).1;refine⟨⟨XN,.inr ⟨g,cap,putCells (Bm Sj) 0 s.toArray a5,by rw[hs],hb,?_,WQ,hm,by simpa[putCells]using a8,?_⟩⟩,?_⟩
 ·exact Tct
 ·apply Bk
  intro j;rw[xF,Array.getElem?_toList,rI];by_cases hj:j<s.length*1
  ·have Vp:j<a5.size:=by omega
   simp only[aw hj,putCells,Array.getElem?_mapIdx,aa0 Vp,Option.map_some];rw[aw ZY,lO WQ];simp[oB,show j<s.length by omega]
  simp only[bh hj];rw[xj WQ];rfl
 exact TbR
def eG.holds{l:PI}(h:eG w B v l)(hne:0<l.length) :
  ∃g cap,v=FG (Vv ⟨g,0,VX⟩) l.length cap/\B<=g/\g<w.1.size/\l.length<=cap/\cap<=maxLen/\Holds (Bm Sj) w g 0 l.toArray:=by
 have hv:v≠FG VX 0 0:=by
  rintro rfl;rcases h.2 with⟨_,hn⟩|⟨g,cap,a5,e,_⟩
  ·omega
  cases e
 obtain⟨g,cap,e,hb,hg,hn,hm,_,hH⟩:=Lib.holds_of_ownsRow h hv;exact⟨g,cap,e,hb,hg,hn,hm,hH⟩
def xV(l:RU)(d:Array H5)(hp:PermIn 0 l.toArray.size l.toArray d)(hs:SortedIn (ltOf fun x y:H5=>Kx x.1 y.1) 0 l.toArray.size d) :
  d.toList.Perm l/\d.toList.length=l.length/\d.toList.Pairwise fun p q=>p.1<=q.1:=by
 obtain⟨h1,_,h3⟩:=hp;have hd:d.size=l.length:=by simpa using h1
 have e1:(d.extract 0 l.toArray.size).toList=d.toList:=by rw[show l.toArray.size=d.size from by simpa using hd.symm];simp
 have e2:(l.toArray.extract 0 l.toArray.size).toList=l:=by simp
 rw[e1,e2]at h3;refine⟨h3,by simpa using hd,?_⟩;rw[It];intro i j hi hj hij;have h:=hs i j (cg _) hij (by simp at hj ⊢;omega);simp at hi hj;rw[oB d i hi,oB d j hj]at h;simp only[Array.getElem_toList];generalize d[i]=p at *;generalize d[j]=q at *;unfold ltOf Kx at h;by_cases hlt:q.1<p.1
 ·simp[hlt]at h
 omega
def AR(l:RU)(v:zY)(w:H7)(hr:xo w v l)(On:l.length<=100000000):Calls prog 184 #[v] w fun e w'=>∃v',e=S6 v'/\bM w' w.1.size v' l/\Below w.1.size w w':=by
 obtain⟨p,cap,rfl,a7,ij,hp⟩:=hr;cases p with
 |none =>
  have hl:l=[]:=by
   cases l with
   |nil=>rfl
   |cons a l=>obtain⟨b,off,e,_⟩:=hp XN;cases e
  subst hl;refine(AnyE.slices_Clone_nil Tryz.cloneR _ _ w).mono ?_;rintro e w' ⟨rfl,rfl⟩;exact⟨_,rfl,bM.nil _ _,bj _ _⟩
 |some a =>
  by_cases h0:0<l.length
  ·obtain⟨b,off,e,hb,hc⟩:=hp h0
   cases e
   obtain⟨i0,hi,du,R0,RC⟩:=gg DT;refine(AnyE.slices_Clone Tryz.cloneR i0 _ 2 16 hi du R0 RC lX YR Tryz.sizeOf49 b off l.length cap (bU l) w (dx l) Tdh WQ (fun j u hu=>?_) (qI l)).mono ?_
   ·have hj:j<l.length*2:=by rw[<- dx];exact(AT.1 hu).1
    obtain⟨p,hp⟩:=De l (j/2) WQ;have h1:=kr l (j/2) p hp;have h2:=hc (j/2) p hp;rcases Nat.mod_two_eq_zero_or_one j with hm|hm
    ·have e:j/2*2=j:=by omega
     rw[e]at h1 h2;rw[h1.1]at hu;rw[h2.1,hu]
    have e:j/2*2+1=j:=by omega
    rw[e]at h1;rw[h1.2]at hu;rw[<- hu,<- h2.2,Nat.add_assoc,e]
   rintro e w' ⟨v',rfl,ho,_,a5⟩;exact⟨v',rfl,ho,a5⟩
  have hl:l=[]:=fX WQ;subst hl;have a8:∀(w:H7) (a:IH) (n c n' c':Nat),(binOp .eql 92 (FG a n c) (FG VX n' c')).run prog w=.ok (Ft a.isNone) w:=fun w a n c n' c'=>Cl w _ _ a n c n' c' underlying92;show Calls prog _ #[FG (Vv a) 0 cap] w _;go_enter func184,ntmps184;go_wp2;go_ret;refine⟨_,rfl,?_,(bj _ _).alloc (bk _) _⟩;exact World.ownsRow_made w #[] 0 (bk _) Tdh lX
def vY(x y:H5):Calls prog 186 #[Tk #[Bm Sj x.1,Bm Sj x.2],Tk #[Bm Sj y.1,Bm Sj y.2]] W fun e w'=>e=S6 (Bm Sj (Kx x.1 y.1))/\∃q a7,w'=grow (W.drewN q) a7:=by
 have a5:=fun W'=>Any.cmp_Compare_int Tryz.lays122 x.1 y.1 W';change ∀W',Calls prog 187 _ _ _ at a5;generalize Kx x.1 y.1=r at a5 ⊢;go_enter func186,ntmps186
 go_wp2_with(go_at_call 187;refine(a5 _).mono ?_;rintro e w' ⟨rfl,rfl⟩)
 go_ret;exact⟨rfl,0,_,by rw[alloc_eq_grow,alloc_eq_grow,grow_grow];rfl⟩
def xU(blk off size:Nat)(w:H7):CmpLays prog 186 #[] encR 2 (fun x y=>Kx x.1 y.1) blk off size w :=
 fun _ _ _ _ x y=>vY x y
def E5(x y:H5):ltOf (fun x y:H5=>Kx x.1 y.1) x y=V7 (x.1<y.1):=by
 unfold ltOf Kx;by_cases h1:x.1<y.1
 ·simp[h1]
 by_cases h2:y.1<x.1<;>simp[h1,h2]
def FP:SWO (ltOf fun x y:H5=>Kx x.1 y.1) where
 irrefl x:=by rw[E5];simp
 trans x y z h1 h2:=by rw[E5]at *;simp at *;omega
 ntrans x y z h1 h2:=by rw[E5]at *;simp at *;omega
def DL(B:Nat)(l:RU)(v:zY)(w:H7)(ho:bM w B v l)(On:l.length<=100000000):Calls prog 185 #[v,.func (.func 186) #[] #[]] w fun e w'=>e=S6 (Vj #[])/\∃s,s.Perm l/\(s.Pairwise fun p q=>p.1<=q.1)/\bM w' B v s/\Below B w w':=by
 by_cases h0:0<l.length
 ·obtain⟨g,cap,rfl,hB,hg,hc,hH⟩:=ho.holds h0;have eg:∀args w,(callFunc 186 args).run prog w=.ok (.enter 186 args) w:=enters_of func186 Yp lX;have a5:=AnyQ.slices_SortFunc Tryz.sortR 2 Tryz.isAgg49 Tryz.sizeOf49 encR (fun _=>rfl) (fun x v hv=>by simp[encR]at hv;rcases hv with rfl|rfl<;>rfl) (fun x y=>Kx x.1 y.1) FP 186 #[] g 0 cap l.toArray w eg (xU g 0 l.toArray.size w) hH hg ZY;change Calls prog 185 _ _ _ at a5;refine a5.mono ?_;rintro e w' ⟨rfl,d',n,os,hp,hs,rfl⟩;obtain⟨a,b,c⟩:=xV l d' hp hs;have:=bM.sorted (n:=n) (os:=os) ho b;exact⟨rfl,d'.toList,a,c,this.1,this.2⟩
 have hl:l=[]:=fX WQ;subst hl;obtain⟨p,cap,rfl,_⟩:=ho.rd;refine(AnyF.slices_SortFunc_none Tryz.sortR p cap _ w).mono ?_;rintro e w' ⟨rfl,rfl⟩;exact⟨rfl,[],List.Perm.refl _,List.Pairwise.nil,ho,bj _ _⟩
def FK(w:H7)(S:Int->Prop)(N:Nat)(e:Ending)(w':H7):Prop :=
 ∃v x,e=S6 v/\bM w' w.1.size v x/\iE x S/\x.length<=N/\Below w.1.size w w'
def iF(h:dI l=VR):∀p∈l,0<=p.1/\0<=p.2/\p.1+p.2<=1073741824:=fun p hp=>by
 unfold dI at h;have:=En (An.1 h p hp);omega
def sI(o:RU)(r:H5):(cZ o r).length<=o.length+1:=by
 unfold cZ;split
 ·omega
 split
 ·simp
 split
 ·simp only[cD,List.length_dropLast,A4];omega
 simp
def tF(l:RU)(k:Nat)(hk:k<=l.length):(merge (l.take k)).length<=k:=by
 induction k with
 |zero=>simp[merge]
 |succ k ih =>
  obtain⟨x,hx⟩:=aj l k WQ;rw[take_snoc' l k x hx,fQ];have:=sI (merge (l.take k)) x;have:=ih WQ;omega
def TcA(h:gt:=by
 rcases List.mem_append.1 hp with hp|hp
 ·exact ho p hp
 simp at hp;subst hp;exact hr):=h
def uS(M:Int){o:RU}(r:H5)(ho:∀p∈o,0<=p.1/\0<=p.2/\p.1+p.2<=M)(hr:0<=r.1/\0<=r.2/\r.1+r.2<=M):∀p∈cZ o r,0<=p.1/\0<=p.2/\p.1+p.2<=M:=by
 intro p hp;unfold cZ at hp;split at hp
 ·exact ho p hp
 split at hp
 ·exact TcA
 rename_i q hq;have a5:=ho q (List.mem_of_getLast? hq);split at hp
 ·rcases AS.1 hp with hp|hp
  ·exact ho p (List.dropLast_subset o hp)
  simp at hp;subst hp;simp only[];omega
 exact TcA
def CL(M:Int)(l:RU)(h:∀p∈l,0<=p.1/\0<=p.2/\p.1+p.2<=M)(k:Nat)(hk:k<=l.length):∀p∈merge (l.take k),0<=p.1/\0<=p.2/\p.1+p.2<=M:=by
 induction k with
 |zero=>simp[merge]
 |succ k ih =>
  obtain⟨x,hx⟩:=aj l k WQ;rw[take_snoc' l k x hx,fQ];exact uS M x (ih WQ) (h x (ct hx))
def zC(s:RU)(k:Nat)(x:H5)(hx:s[k]?=Vv x)(h0:x.2=0):merge (s.take (k+1))=merge (s.take k):=by
 rw[take_snoc' s k x hx,fQ];unfold cZ;rw[aw h0]
def vZ(s:RU)(k:Nat)(x:H5)(hx:s[k]?=Vv x)(h0:x.2≠0)(ho:merge (s.take k)=[]):merge (s.take (k+1))=merge (s.take k)++[x]:=by
 rw[take_snoc' s k x hx,fQ];unfold cZ;rw[bh h0,ho];rfl
def zz2(s:RU)(k:Nat)(x:H5)(hx:s[k]?=Vv x)(h0:x.2≠0)(i:RU)(q:H5)(ho:merge (s.take k)=i++[q])(hq:¬x.1<=q.1+q.2):merge (s.take (k+1))=i++[q]++[x]:=by
 rw[take_snoc' s k x hx,fQ];unfold cZ;rw[bh h0,ho];simp[hq]
def yK(s:RU)(k:Nat)(x:H5)(hx:s[k]?=Vv x)(h0:x.2≠0)(i:RU)(q:H5)(ho:merge (s.take k)=i++[q])(hq:x.1<=q.1+q.2):merge (s.take (k+1))=i++[(q.1,max q.2 (x.1+x.2-q.1))]:=by
 rw[take_snoc' s k x hx,fQ];unfold cZ;rw[bh h0,ho];simp[hq]
def TbV(h:gt:=by
 (repeat' (first|exact bj _ _|exact bk _|(refine dT ?_ ?_ _)|(refine aT ?_ _)|(refine mC ?_)|(simp;done)|(simp;omega)))):=h
def TeX(h:gt:=by refine RowKit.Below.mono (B:=wr.1.size) ?_ hb.size;(repeat' (first|exact bj _ _|exact bk _|(refine dT ?_ ?_ _)|(refine aT ?_ _)|(refine mC ?_)|(simp;done)|(simp;omega)))):=h
def jJ(l:RU)(w:H7)(hr:xo w v l)(hval:dI l=VR)(On:l.length<=10000000):Calls prog 173 #[v] w (FK w (Mem l) l.length):=by
 replace hval:=aa hval;go_enter func173,ntmps173
 go_wp2_with fail;refine(AR l v w hr WQ).mono ?_;rintro e w1 ⟨v1,rfl,ah,ai⟩;go_wp2_with fail;refine(DL w.1.size l v1 w1 ah WQ).mono ?_;rintro e w2 ⟨rfl,s,hp,hs,ak,hb2⟩;have a7:Below w.1.size w w2:=ai.trans hb2;have GF:s.length=l.length:=hp.length_eq;have HP:=aa hp;have HS:=aa hs;have HL:=aa GF;have az:s.length<=10000000:=by omega
 clear hp hs GF;obtain⟨p2,aq,rfl,au,aA,am⟩:=ak.rd;clear ah ak ai hb2 hr;go_wp2;go_loopw[4,14] (fun vo i wr=>∃k:Nat,k<=s.length/\i=Bm Sj k/\bM wr w2.1.size vo (merge (s.take k))/\Below w2.1.size w2 wr) (fun _ i _=>s.length-(intOf i).toNat)
 exact⟨0,cg _,rfl,bM.nil _ _,bj _ _⟩;obtain⟨k,hk,rfl,a5,hb⟩:=hrel;by_cases hlt:k<s.length
 ·obtain⟨x,hx⟩:=aj s k hlt;obtain⟨b,off,rfl,gO,hc⟩:=am WQ;have a8:=(hc.below hb gO) k x hx;have aB:=a8.1;have aC:=a8.2;have cX:b<wr.1.size:=cC gO hb.size;have pB:=iF hval.o x (HP.o.mem_iff.1 (ct hx));obtain⟨aD,aE,hx2⟩:=pB;have a9:=CL 1073741824 s (fun p hp=>iF hval.o p (HP.o.mem_iff.1 hp)) k hk;have ab:=tF s k hk;replace hx:=aa hx;clear hc am a8;obtain⟨o,ho⟩:∃o,o=merge (s.take k):=⟨_,rfl⟩;rw[<- ho]at a5 a9 ab;replace ho:=aa ho
  by_cases h0:x.2=0
  ·have av:(x.2==0)=VR:=by simp[h0]
   have H0:=aa h0;clear h0;go_wp2;go_roundw;exact⟨k+1,WQ,Zf,by rw[zC s k x hx.o H0.o,<- ho.o];exact a5.alloc _,hb.alloc hb.size _⟩;exact Ti
  have av:(x.2==0)=VN:=by simp[h0]
  have H0:=aa h0;clear h0;rcases List.eq_nil_or_concat o with rfl|⟨i,q,rfl⟩
  ·obtain⟨p3,ae,rfl,_,_,_⟩:=a5.rd;go_wp2;go_quiet (fail)
   go_wp2_with(at_builtin;refine jg lX lX w2.1.size [] x lX ?c1 (wr.1.size+1) 1 lX ?c2 ?c3 XN ?c4 ?_)
   case c1=>refine a5.below ?_;(repeat' (first|exact bj _ _|exact bk _|(refine dT ?_ ?_ _)|(refine aT ?_ _)|(refine mC ?_)|(simp;done)|(simp;omega)))
   case c2=>go_simp
   case c3=>go_simp
   case c4=>have:=hb.size;simp;omega
   intro v4 w4 af ag _;have hb5:RowKit.Below w2.1.size w2 w4:=(hb.trans TeX).trans ag;go_wp2;go_roundw;exact⟨k+1,WQ,Zf,by rw[vZ s k x hx.o H0.o ho.o.symm,<- ho.o];exact af,hb5⟩;exact Ti
  simp only[List.concat_eq_append]at *;have hq:=a9 q XN;obtain⟨aF,aG,aH⟩:=hq;clear a9;obtain⟨g,ae,rfl,TR,ye,aI,aJ,Vq,Vr,Yi,hst⟩:=a5.last;have ao:i.length+1<=k:=by simpa using ab
  clear ab;by_cases hle:x.1<=q.1+q.2
  ·go_wp2;go_quiet (fail);go_wp2
   (refine il 21 Yp Yp ?_;simp only[xi,iv,cQ,cL];(repeat(go_big_quiet_step (fail)));(with_reducible refine fR ?_);intro wq ia;obtain⟨nq,ia⟩:=ia;subst ia)
   go_wp2;go_roundw
   case rel =>
    refine⟨k+1,WQ,Zf,?_,?_⟩
    ·rw[yK s k x hx.o H0.o i q ho.o.symm hle];refine bM.setLast ?_ _;refine a5.below ?_;exact TbV
    refine RowKit.Below.setCell ?_ (by exact TR) _;refine hb.trans ?_;refine RowKit.Below.mono (B:=wr.1.size) ?_ hb.size;exact TbV
   simp[intOf];omega
  have aw:V7 (x.1<=q.1+q.2)=VN:=by simp;omega
  go_wp2;go_quiet (fail)
  go_wp2_with(at_builtin;refine jg lX lX w2.1.size (i++[q]) x lX ?c1 (wr.1.size+1) 1 lX ?c2 ?c3 ZY ?c4 ?_)
  case c1=>refine a5.below ?_;(repeat' (first|exact bj _ _|exact bk _|(refine dT ?_ ?_ _)|(refine aT ?_ _)|(refine mC ?_)|(simp;done)|(simp;omega)))
  case c2=>go_simp
  case c3=>go_simp
  case c4=>have:=hb.size;simp;omega
  intro v4 w4 af ag _;have hb5:RowKit.Below w2.1.size w2 w4:=(hb.trans TeX).trans ag;go_wp2;go_roundw;exact⟨k+1,WQ,Zf,by rw[zz2 s k x hx.o H0.o i q ho.o.symm WQ];simpa using af,hb5⟩;exact Ti
 go_wp2;go_ret;have ay:k=s.length:=by omega
 subst ay;rw[cI]at a5;refine⟨_,_,rfl,a5.mono a7.size,zL l s HP.o HS.o (fun p hp=>(iF hval.o p hp).2.1),?_,a7.trans (hb.mono a7.size)⟩;have:=tF s s.length (bk _);rw[cI]at this;have:=HL.o;omega
def yJ{ok:LN}(l:QN)(hr:ck aF 1 ok w [v] l)(On:l.length<=100000000):Calls prog 126 #[v] w fun e w'=>∃p n c,e=S6 (FG p n c)/\Below w.1.size w w':=by
 obtain⟨p,cap,e,a9,ij,hp⟩:=hr;obtain rfl:=IF.1 e;clear e;cases p with
 |none =>
  have hl:l=[]:=by
   cases l with
   |nil=>rfl
   |cons a l=>obtain⟨b,off,e,_⟩:=hp XN;cases e
  subst hl;refine(AnyE.slices_Clone_nil Tryz.cloneS _ _ w).mono ?_;rintro e w' ⟨rfl,rfl⟩;exact⟨_,_,_,rfl,bj _ _⟩
 |some a =>
  by_cases h0:0<l.length
  ·obtain⟨b,off,e,hb,_,hc⟩:=hp h0
   cases e
   obtain⟨i0,hi,du,R0,RC⟩:=gg CJ;refine(AnyE.slices_Clone Tryz.cloneS i0 _ 1 16 hi du R0 RC lX YR Tryz.sizeOf9 b off l.length cap (l.map By) w XN Tdh WQ (fun j u hu=>?_) Tdj).mono ?_
   ·rw[rI]at hu;obtain⟨x,hx,rfl⟩:=Option.map_eq_some_iff.1 hu;obtain⟨u,aa,a7,a8⟩:=hc j x hx;obtain rfl:u=[By x]:=a7;have:=a8 0 _ lX;simpa using this
   rintro e w' ⟨v',rfl,ho,_,a5⟩;rcases ho.2 with⟨rfl,_⟩|⟨g,c,ab,rfl,_⟩
   ·exact⟨_,_,_,rfl,a5⟩
   exact⟨_,_,_,rfl,a5⟩
  have hl:l=[]:=fX WQ;subst hl;have ae:∀(w:H7) (a:IH) (n c n' c':Nat),(binOp .eql 26 (FG a n c) (FG VX n' c')).run prog w=.ok (Ft a.isNone) w:=fun w a n c n' c'=>Cl w _ _ a n c n' c' underlying26;show Calls prog _ #[FG (Vv a) 0 cap] w _;go_enter func126,ntmps126;go_wp2;go_ret;exact⟨_,_,_,rfl,(bj _ _).alloc (bk _) _⟩
def jI{a b:H6}(h:¬a=b):(a.toList==b.toList)=VN:=by
 rw[A6,A6];obtain⟨⟨x⟩⟩:=a;obtain⟨⟨y⟩⟩:=b;simp only[beq_eq_false_iff_ne];exact fun e=>h (by rw[show x=y from e])
def ui{Gb:wy az}(h:∀(j:Nat) (D:az),j<Gb.length->Gb[j]?=Vv D->¬D.name=nm):Gb.find? (fun D=>V7 (D.name=nm))=VX:=by
 rw[List.find?_eq_none];intro D hD;obtain⟨j,hj⟩:=fc hD;simpa using h j D (AT.1 hj).1 hj
def pR:∀ {Gb:wy az} {nm:H6} {k:Nat} {D:az},(∀(j:Nat) (E:az),j<k->Gb[j]?=Vv E->¬E.name=nm)->Gb[k]?=Vv D->D.name=nm->Gb.find? (fun D=>V7 (D.name=nm))=Vv D
 |[],_,_,_,_,h,_=>by simp at h
 |E :: l,nm,0,D,_,h,e=>by
  obtain rfl:E=D:=by simpa using h
  simp[e]
 |E :: l,nm,k+1,D,hno,h,e=>by
  have h0:¬E.name=nm:=hno 0 E WQ lX;rw[List.find?_cons_of_neg TdW];exact pR (k:=k) (fun j F hj hF=>hno (j+1) F WQ (by simpa using hF)) Tdx e
def bH(Gb:wy az)(nm:H6):Option az:=Gb.find? fun D=>V7 (D.name=nm)
def Tal :Tab #[By ⟨#[]⟩,Bm U8 0,Bm Sj 0,Bm Sj 0,Ft VN,Ft VN,FG VX 0 0]:=⟨⟩
def Tas(x0:az)(x1:Nat)(x2:IH)(x3:Nat):Tab #[By x0.name,Bm U8 x0.id,Bm Sj x0.first,Bm Sj x0.Gc,Ft x0.closed,Ft x0.missing,FG x2 x1 x3]:=⟨⟩
def FE(Gb:wy az)(nm:H6)(w:H7)(e:Ending)(w':H7):Prop:=Below w.1.size w w' /\
 match bH Gb nm with
 |some D=>∃p n c,e=S6 (Vj #[Tk (Tas D n p c),VR])
 |none=>e=S6 (Vj #[Tk Tal,VN])
def Tay(x0:H6)(x1:az)(x2:IH)(x3:Nat):Tab #[By x0,Bm U8 x1.id,Bm Sj x1.first,Bm Sj x1.Gc,Ft x1.closed,Ft x1.missing,FG x2 (Wq x1.tags) x3]:=⟨⟩
def Tao(x0:H6)(x1:Int)(x2:Int)(x3:Int)(x4:Int)(x5:Nat)(x6:IH)(x7:Nat)(x8:Nat)(x9:IH)(a5:Nat)(a7:Nat)(a8:IH)(a9:Nat)(aa:Nat)(ab:IH)(ae:Nat):Tab #[By x0,Bm U8 x1,Bm Sj x2,Bm Sj x3,Bm Sj x4,FG x6 x5 x7,FG x9 x8 a5,FG a8 a7 a9,FG ab aa ae]:=⟨⟩
def Tbl(h:gt:=by
 ·have e1:=jI pD;go_wp2;go_roundw
  case rel =>
   refine⟨k+1,WQ,Zf,fun j E hj hE=>?_,hB.alloc WQ _,ZY,(cj _ _ _ WQ).trans yi.o⟩;by_cases hjk:j=k
   ·subst hjk;rw[HD.o]at hE;injection hE with hE;rw[<- hE];exact pD
   exact Ty.o j E WQ hE
  simp[intOf];omega):=h
def TdP(h:gt:=by show w.1.size<=w.1.size+1;omega):=h
def Tbg(h:gt:=by
 have hL:∀(V:H7) (o:Nat) (z:zY),Below w.1.size w V->Below w.1.size w (V.setCell ⟨w.1.size+1,o,VX⟩ z):=fun V o z q=>q.setCell (p:=⟨w.1.size+1,o,VX⟩) TdP z
 exact hL _ _ _ (hL _ _ _ (hL _ _ _ (hL _ _ _ (hL _ _ _ (hL _ _ _ (hL _ _ _ (cJ.o.setCell (p:=⟨Bx,6,VX⟩) (by show w.1.size<=Bx;omega) _)))))))):=h
def Tee(h:gt:=by simp[results,Tryz.results72,go_sem,r0,r1,r2,r3,r4,r5,r6]):=h
def Zl{w':H7}{b:Nat}{x:Obj}(hb:Below w.1.size w w')(h:Hid (w.1[b]?=Vv x)):Hid (w'.1[b]?=Vv x):=aa ((hb.block _ (aq h.o)).trans h.o)
def YS{v u:H7}(a:Hid (Below w.1.size w v))(hb:Below v.1.size v u):Hid (Below w.1.size w u):=aa (a.o.trans (hb.mono a.o.size))
def vV{ok:LN}(name:H6)(id seq ext nx:Int)(tp dp vp hp:IH)(tl tc dc vl vc hl hc:Nat)(Gb:wy az)(nm:H6)(w:H7)(hr:ck aO 7 ok w [FG dp Gb.length dc] Gb)(hd:Gb.length<=1000)(ht:∀D∈Gb,Wq D.tags<=1000):Calls prog 72 #[Tk (Tao name id seq ext nx tl tp tc Gb.length dp dc vl vp vc hl hp hc),By nm] w (FE Gb nm w):=by
 replace hr:=aa hr;replace ht:=aa ht;go_enter func72,ntmps72;go_wp2
 go_loopw[11] (fun i wr=>∃k:Nat,k<=Gb.length/\i=Bm Sj k/\(∀j D,j<k->Gb[j]?=Vv D->¬D.name=nm)/\Below w.1.size w wr/\w.1.size+1<wr.1.size/\wr.1[w.1.size+1]?=Vv (Sx Tal 69 (0,0))) (fun i _=>Gb.length-(intOf i).toNat)
 case atStart =>
  refine⟨0,cg _,rfl,(fun j D hj=>by omega),((bj _ _).alloc (bk _) _).alloc XN _,XN,?_⟩;have:=b9 (w.alloc (Sx (Tao name id seq ext nx tl tp tc Gb.length dp dc vl vp vc hl hp hc) 31)) (Sx Tal 69);rw[cW]at this;exact this
 obtain⟨k,hk,rfl,hno,hB,hz,hR⟩:=hrel;have Ty:=aa hno;clear hno;have r0:=cr hR 0 _ lX;by_cases hlt:k<Gb.length
 ·obtain⟨D,hD⟩:=aj Gb k hlt;obtain⟨b,off,u,rfl,gR,cX,ez,sA,a5⟩:=hr.o.elem hD;obtain⟨tv,rfl,ew⟩:=sA;obtain⟨a7,a8,rfl,_,_⟩:=ew.cap;have cT:wr.1[b]?=w.1[b]?:=hB.block b cX;have q0:=(cd (w:=w) (a:=⟨b,off+k*7,VX⟩) cT).trans (a5 0 _ lX);have q1:=(cd (w:=w) (a:=⟨b,off+k*7+1,VX⟩) cT).trans (a5 1 _ lX);have q2:=(cd (w:=w) (a:=⟨b,off+k*7+2,VX⟩) cT).trans (a5 2 _ lX);have q3:=(cd (w:=w) (a:=⟨b,off+k*7+3,VX⟩) cT).trans (a5 3 _ lX);have q4:=(cd (w:=w) (a:=⟨b,off+k*7+4,VX⟩) cT).trans (a5 4 _ lX);have q5:=(cd (w:=w) (a:=⟨b,off+k*7+5,VX⟩) cT).trans (a5 5 _ lX);have q6:=(cd (w:=w) (a:=⟨b,off+k*7+6,VX⟩) cT).trans (a5 6 _ lX);have HD:=aa hD;clear hD;replace ew:=aa ew;have yi:=aa hR;clear hR;clear a5 ez cT r0;by_cases pD:D.name=nm
  ·have G2:=ae wr (Sx (Tay nm D a7 a8) 69);have Vs:=aa (b9 wr (Sx (Tay nm D a7 a8) 69));have ab:=aa ((G2.block _ hz).trans yi.o);have pL:=aa (hB.trans (G2.mono WQ));have Qf:Hid (wr.1.size<(wr.alloc (Sx (Tay nm D a7 a8) 69)).1.size):=aa XN;have nt:=ht.o D (ct HD.o);clear G2;go_wp2_with fail;generalize DA:wr.alloc _=WA at *;clear DA;refine(yJ (ok:=fun b=>ok b/\b<w.1.size) D.tags ((ck.moves aF.moves).mv ⟨pL.o.size,fun b hb ho=>⟨⟨ho,hb⟩,pL.o.block b hb⟩⟩ ew.o) WQ).mono ?_;rintro e w3 ⟨p3,n3,c3,rfl,hb3⟩;have hx:=(hb3.block _ Qf.o).trans Vs.o;have a9:=(hb3.block _ (by have:=aq ab.o;omega)).trans ab.o;have xL:=cr hx;have rL:=cr a9;have x0:=xL 0 _ lX;have r0:=rL 0 _ lX;have x1:=xL 1 _ lX;have r1:=rL 1 _ lX;have x2:=xL 2 _ lX;have r2:=rL 2 _ lX;have x3:=xL 3 _ lX;have r3:=rL 3 _ lX;have x4:=xL 4 _ lX;have r4:=rL 4 _ lX;have x5:=xL 5 _ lX;have r5:=rL 5 _ lX;have x6:=xL 6 _ lX;have r6:=rL 6 _ lX;have xf:=sr hx;have rf:=sr a9;have cJ:=YS pL hb3;clear xL rL hx a9 hb3;have hne:¬wr.1.size=w.1.size+1:=by omega
   have ag:¬w.1.size+1=wr.1.size:=by omega
   generalize hBx:wr.1.size=Bx at *;have af:=aa pD;have Q8:=aa HD.o;go_wp2;refine eC (v:=Vj #[Tk #[nm,Bm U8 D.id,Bm Sj D.first,Bm Sj D.Gc,Ft D.closed,Ft D.missing,FG p3 n3 c3],VR]) Tee lX ⟨?_,?_⟩
   ·exact Tbg
   rw[show bH Gb nm=Vv D from pR Ty.o Q8.o af.o];exact⟨p3,n3,c3,by rw[af.o]⟩
  exact Tbl
 obtain rfl:k=Gb.length:=by omega
 have rL:=cr hR;clear r0;obtain⟨r0,r1,r2,r3,r4,r5,r6⟩:=se rL;have rf:=sr hR;clear rL hR;go_wp2;refine eC (v:=Vj #[Tk Tal,VN]) Tee lX ⟨?_,?_⟩
 ·have hL:∀(V:H7) (o:Nat) (z:zY),Below w.1.size w V->Below w.1.size w (V.setCell ⟨w.1.size+1,o,VX⟩ z):=fun V o z q=>q.setCell (p:=⟨w.1.size+1,o,VX⟩) TdP z
  exact hL _ _ _ (hL _ _ _ (hL _ _ _ (hL _ _ _ (hL _ _ _ (hL _ _ _ (hL _ _ _ hB))))))
 rw[show bH Gb nm=VX from ui Ty.o]
open Go.Shelf
variable {W W':H7}{row:Option Nat}{B n:Nat}
attribute [local go_sem] Oper.semAt_some
def Ew(name:H6)(id seq ext nx:Int)(tp dp vp hp:IH)(tl tc dl dc vl vc hl hc:Nat)(w:H7):Calls prog 169 #[Tk (Tao name id seq ext nx tl tp tc dl dp dc vl vp vc hl hp hc)] w fun e w'=>e=S6 (.func (.func 181) #[] #[SL (Vv w.1.size)])/\w'=w.alloc (Sx (Tao name id seq ext nx tl tp tc dl dp dc vl vp vc hl hp hc) 31):=by
 go_enter func169,ntmps169;go_wp2;go_ret;exact⟨rfl,rfl⟩
def xu{a:Array zY}{c:Nat × Nat}(hg:W.grownBy W' row)(hr:∀r,row=Vv r->B<=r/\∃o:Obj,W.1[r]?=Vv o/\o.isCells=VN)(h:W.1[k]?=Vv (Sx a b c)):W'.1[k]?=Vv (Sx a b c) :=
 (hg.block k (aq h) (fun e=>by
  obtain⟨_,o,ho,hc⟩:=hr k e.symm;rw[h]at ho;injection ho with ho;subst ho
  cases hc)).trans h
def keepR{B':Nat}{xs:RH}(hg:W.grownBy W' row)(hr:∀r,row=Vv r->B<=r/\∃o:Obj,W.1[r]?=Vv o/\o.isCells=VN)(h:W.ownsRow B' t sz v n xs):W'.ownsRow B' t sz v n xs:=by
 refine aC h fun k e=>?_;rcases h.2 with⟨rfl,_⟩|⟨g,cap,a5,rfl,_,XQ,_⟩
 ·cases e
 obtain rfl:g=k:=by injection e
 exact(xu hg hr XQ).trans XQ.symm
def DZ{ops:Array Oper}{l:wy Oper}(h:Hid (wpListIn F n P ops Q (o :: l) a w)):wpListIn F n P ops Q (o :: l) a w:=h.o
end
section
def Ey(w:H7)(v:zY)(ls:wy RU):Prop :=
 ∃g cap,v=FG (Vv ⟨g,0,VX⟩) ls.length cap/\ls.length<=cap/\cap<=9223372036854775807/\g<w.1.size/\∀(i:Nat) (l:RU),ls[i]?=Vv l->∃u,w.cell? ⟨g,i,VX⟩=Vv u/\xo w u l
def xZ(ls:wy RU)(k:Nat)(l:RU)(h:ls[k]?=Vv l)(hv:dI l=VN):ls.all dI=VN:=by
 rw[ap8];exact⟨l,ct h,by simp[hv]⟩
def BN(ls:wy RU)(k:Nat)(l:RU)(h:ls[k]?=Vv l)(ha:(ls.take k).all dI=VR)(hv:dI l=VR):(ls.take (k+1)).all dI=VR:=by
 rw[take_snoc' ls k l h,List.all_append,ha];simp[hv]
def qK(ls:wy RU)(hr:Ey w v ls):Calls prog 172 #[v] w fun e w'=>e=S6 (Ft (ls.all dI))/\Below w.1.size w w':=by
 obtain⟨g,cap,rfl,ag,ij,hg,hc⟩:=hr;go_enter func172,ntmps172;go_wp2
 go_loopw[9] (fun i wr=>∃k:Nat,k<=ls.length/\i=Bm Sj k/\(ls.take k).all dI=VR/\Below w.1.size w wr) (fun i _=>ls.length-(intOf i).toNat)
 exact⟨0,cg _,rfl,rfl,bj _ _⟩;obtain⟨k,hk,rfl,hall,hb⟩:=hrel;replace hall:=aa hall;by_cases hlt:k<ls.length
 ·obtain⟨l,hl⟩:=aj ls k hlt;obtain⟨u,hu,Um⟩:=hc k l hl;have a8:wr.cell? (g,k)=Vv u:=(Sc hb hg).trans hu;obtain⟨p,ab,rfl,ae,ai,a9⟩:=Um.below hb;replace hl:=aa hl;clear hc hu Um;go_wp2;obtain⟨wo,rfl⟩:∃wo:H7,wo=wr:=⟨_,rfl⟩
  go_loopw[15] (fun i wr=>∃j:Nat,j<=l.length/\i=Bm Sj j/\dI (l.take j)=VR/\Below wo.1.size wo wr) (fun i _=>l.length-(intOf i).toNat)
  exact⟨0,cg _,rfl,rfl,bj _ _⟩;obtain⟨j,hj,rfl,a5,hb2⟩:=hrel;replace a5:=aa a5;by_cases hlt2:j<l.length
  ·obtain⟨b,off,rfl,gO,hc⟩:=a9 WQ;obtain⟨x,hx⟩:=aj l j hlt2;have a7:=(hc.below hb2 gO) j x hx;have ak:=a7.1;have am:=a7.2;replace hx:=aa hx;clear hc a9 a7;go_wp2_with fail;refine(AQ).mono ?_;rintro e w1 ⟨rfl,af⟩;have hb3:Below wo.1.size wo w1:=mn (hb2.alloc hb2.size _) af;cases hv:nT x.1 x.2
   ·go_wp2;go_ret;exact⟨ah (xZ ls k l hl.o (zA l j x hx.o hv)).symm,mn hb hb3⟩
   go_wp2;go_roundw;exact⟨j+1,WQ,Zf,Cm l j x hx.o a5.o hv,hb3⟩;exact Ti
  go_wp2;go_roundw;exact⟨k+1,WQ,Zf,BN ls k l hl.o hall.o (Ce l j WQ a5.o),mn hb hb2⟩;exact Ti
 go_wp2;go_ret;refine⟨ah ?_,hb⟩;have:=hall.o;rw[jz WQ]at this;exact this.symm
def Cz(w:H7)(l:RU)(h:xo w v l):Ey (w.alloc (Sx #[v] t)) (FG (Vv w.1.size) 1 1) [l]:=by
 refine⟨w.1.size,1,rfl,XN,WQ,XN,fun i l' hi=>?_⟩
 match i,hi with
 |0,hi =>
  simp at hi;subst hi;exact⟨v,TdM,h.below ((bj _ _).alloc (bk _) _)⟩
 |i+1,hi=>simp at hi
def xK(w:H7){v2:zY}(l1 l2:RU)(h1:xo w v1 l1)(h2:xo w v2 l2):Ey (w.alloc (Sx #[v1,v2] t)) (FG (Vv w.1.size) 2 2) [l1,l2]:=by
 refine⟨w.1.size,2,rfl,XN,WQ,XN,fun i l' hi=>?_⟩
 match i,hi with
 |0,hi =>
  simp at hi;subst hi;exact⟨v1,TdM,h1.below ((bj _ _).alloc (bk _) _)⟩
 |1,hi =>
  simp at hi;subst hi;exact⟨v2,TdM,h2.below ((bj _ _).alloc (bk _) _)⟩
 |i+2,hi=>simp at hi
def zz(w:H7)(S:Int->Prop)(N:Nat)(e:Ending)(w':H7):Prop :=
 ∃v x,e=S6 (Vj #[v,Bm Sj 0])/\bM w' w.1.size v x/\iE x S/\x.length<=N/\Below w.1.size w w'
def tJ(l:RU)(v:zY)(w:H7)(hr:xo w v l)(hval:dI l=VR)(On:l.length<=10000000):Calls prog 144 #[v] w (zz w (Mem l) l.length):=by
 replace hval:=aa hval;have hr0:=hr;obtain⟨p0,a7,rfl,_⟩:=hr0;go_enter func144,ntmps144
 go_wp2_with fail;refine(qK [l] (Cz w l hr)).mono ?_;rintro e w1 ⟨rfl,a8⟩;have a5:Below w.1.size w w1:=mn ((bj _ _).alloc (bk _) _) a8;have hv:[l].all dI=VR:=by simp[hval.o]
 go_wp2_with fail;refine(jJ l w1 (hr.below a5) hval.o On).mono ?_;rintro e w2 ⟨v2,x,rfl,ho,hx,vh,hb2⟩;go_wp2;go_ret2;exact⟨v2,x,rfl,ho.mono a5.size,hx,vh,mn a5 hb2⟩
def ze(l:RU):Int:=(l.map (·.2)).sum
def El{x l:RU}(hx:iE x (Mem l))(hv:dI l=VR):∀p∈x,0<=p.1/\1<=p.2/\p.1+p.2<=1073741824:=fun p hp=>by
 have h1:=hx.1.1 p hp;obtain⟨a,ha,a5,_⟩:=(hx.2 p.1).1 ⟨p,hp,WQ,WQ⟩;obtain⟨b,hb,_,hb2⟩:=(hx.2 (p.1+p.2-1)).1 ⟨p,hp,WQ,WQ⟩;have:=iF hv a ha;have:=iF hv b hb;omega
def GR(x:wy α)(k:Nat)(y:α)(h:x[k]?=Vv y):x.drop k=y :: x.drop (k+1):=by
 obtain⟨hk,rfl⟩:=AT.1 h;exact tB hk
open Go.Sort
variable {a:RU}{i:Nat}{n:Int}
def eU(l:RU):PI:=l.flatMap fun p=>[p.1,p.1+p.2]
def xw(l:RU)(k:Nat)(x:H5)(h:l[k]?=Vv x):eU (l.take (k+1))=eU (l.take k)++[x.1,x.1+x.2]:=by
 rw[take_snoc' l k x h];simp[eU]
def kE(l:RU):(eU l).length=2*l.length:=by
 induction l with
 |nil=>rfl
 |cons p l ih=>simp[eU]at *;omega
def dV(ls:wy RU):PI:=ls.flatMap eU
def xJ(ls:wy RU)(k:Nat)(l:RU)(h:ls[k]?=Vv l):dV (ls.take (k+1))=dV (ls.take k)++eU l:=by
 rw[take_snoc' ls k l h];simp[dV]
def qE(N:Nat)(ls:wy RU)(h:∀l∈ls,l.length<=N):(dV ls).length<=2*N*ls.length:=by
 induction ls with
 |nil=>simp[dV]
 |cons l ls ih =>
  have h1:=ih (fun l hl=>h l (by simp[hl]));have h2:=h l XN;have h3:=kE l;simp only[dV,lB,cD,cS]at *;rw[Nat.mul_add,fp];omega
def Cq(P:PI)(Z:PI):Prop:=P.Pairwise (·<·)/\∀n,n∈P↔n∈Z
def Bp(B:Nat)(w:H7)(ho:eG w B v l)(On:l.length<=100000000):Calls prog 189 #[v] w fun e w'=>e=S6 (Vj #[])/\eG w' B v (l.mergeSort fun x y=>V7 (x<=y))/\Below B w w':=by
 by_cases h0:0<l.length
 ·obtain⟨g,cap,rfl,hB,hg,hc,_,hH⟩:=ho.holds h0;have a5:=Any.slices_Sort_int Tryz.lays189 g 0 cap l w hH hg WQ;change Calls prog 189 _ _ _ at a5;refine a5.mono ?_;rintro e w' ⟨rfl,n,os,rfl⟩;have:=eG.sorted (n:=n) (os:=os) (s:=l.mergeSort fun x y=>V7 (x<=y)) ho (DO l);exact⟨rfl,this.1,this.2⟩
 have hl:l=[]:=fX WQ;subst hl;obtain⟨p,cap,rfl,_⟩:=ho.rd;refine(Any.slices_Sort_int_none Tryz.lays189 p cap w).mono ?_;rintro e w' ⟨rfl,rfl⟩;exact⟨rfl,by simpa using ho,bj _ _⟩
def Tb7(h:gt:=by
 induction m with
 |zero=>simp[Lib.compactUpTo]
 |succ m ih=>rw[Lib.compactUpTo_succ];split<;>simp<;>omega):=h
def vJ(B:Nat)(w:H7)(ho:eG w B v l)(On:l.length<=100000000):Calls prog 190 #[v] w fun e w'=>∃v',e=S6 v'/\eG w' B v' (Iv l)/\Below B w w':=by
 by_cases h0:0<l.length
 ·obtain⟨g,cap,rfl,hB,hg,hc,hcm,hH⟩:=ho.holds h0;have a5:=Any.slices_Compact_int Tryz.laysNm220 g 0 cap l w hH WQ hc;change Calls prog 190 _ _ _ at a5;refine a5.mono ?_;rintro e w' ⟨rfl,q,rfl⟩
  have hle:(Iv l).length<=l.length:=by
   have:∀m,(No l.toArray m).length<=m:=fun m=>by
    exact Tb7
   exact this l.length
  have h1:=Lib.ownsRow_putRow (enc:=Bm Sj) (q:=q) (k:=(Iv l).length) (ys:=Iv l++DE (l.length-(Iv l).length) 0) ho ZY hle;rw[List.take_left]at h1;exact⟨_,rfl,h1,Lib.below_putRow (bj _ _) hB⟩
 have hl:l=[]:=fX WQ;subst hl;obtain⟨p,cap,rfl,_⟩:=ho.rd;refine(Any.slices_Compact_int_empty Tryz.laysNm220 p cap w).mono ?_;rintro e w' ⟨rfl,rfl⟩;exact⟨_,rfl,ho,bj _ _⟩
def Fg(w:H7)(Z:PI)(e:Ending)(w':H7):Prop:=∃v P,e=S6 v/\eG w' w.1.size v P/\Cq P Z/\P.length<=Z.length/\Below w.1.size w w'
def Az(Z:PI):Cq (Iv (Z.mergeSort fun x y=>V7 (x<=y))) Z/\(Iv (Z.mergeSort fun x y=>V7 (x<=y))).length<=Z.length:=by
 have hs:(Z.mergeSort fun x y=>V7 (x<=y)).Pairwise (·<=·):=by
  have:=List.pairwise_mergeSort (le:=fun x y:Int=>V7 (x<=y)) (fun a b c h1 h2=>by simp at *;omega) (fun a b=>by simp;omega) Z;exact this.imp (fun h=>by simpa using h)
 obtain⟨h1,h2⟩:=qi hs;refine⟨⟨h1,fun n=>(h2 n).trans ?_⟩,?_⟩
 ·exact(List.mergeSort_perm Z _).mem_iff
 have:∀(d:Array Int) m,(No d m).length<=m:=fun d m=>by
  exact Tb7
 have:=this (Z.mergeSort fun x y=>V7 (x<=y)).toArray (Z.mergeSort fun x y=>V7 (x<=y)).length;rw[DO]at this;unfold Iv;rw[DO];exact this
def Co(ls:wy RU)(hr:Ey w v ls)(hval:ls.all dI=VR)(U6:ls.length<=2)(On:∀l∈ls,l.length<=10000000):Calls prog 182 #[v] w (Fg w (dV ls)):=by
 have HV:=aa hval;replace On:=aa On;clear hval;obtain⟨g,cap,rfl,au,ij,hg,hc⟩:=hr;go_enter func182,ntmps182;go_wp2
 go_loopw[3,10] (fun vo i wr=>∃k:Nat,k<=ls.length/\i=Bm Sj k/\eG wr w.1.size vo (dV (ls.take k))/\Below w.1.size w wr) (fun _ i _=>ls.length-(intOf i).toNat)
 exact⟨0,cg _,rfl,eG.nil _ _,bj _ _⟩;obtain⟨k,hk,rfl,a7,hb⟩:=hrel;by_cases hlt:k<ls.length
 ·obtain⟨l,hl⟩:=aj ls k hlt;obtain⟨u,hu,Um⟩:=hc k l hl;have a9:wr.cell? (g,k)=Vv u:=(Sc hb hg).trans hu;obtain⟨p,ag,rfl,ah,av,ab⟩:=Um;have aw:l.length<=10000000:=On.o l (ct hl);have ae:(dV (ls.take k)).length<=40000000:=by
   have:=qE 10000000 (ls.take k) (fun l hl=>On.o l (tR hl));have h2:(ls.take k).length<=2:=by simp;omega
   omega
  have mb:dI l=VR:=An.1 HV.o l (ct hl);have HVL:=aa mb;have HL:=aa hl;obtain⟨Z,hZ⟩:∃Z,Z=dV (ls.take k):=⟨_,rfl⟩;rw[<- hZ]at a7 ae;replace hZ:=aa hZ;clear hc hu hl mb;go_wp2;obtain⟨wo,rfl⟩:∃wo:H7,wo=wr:=⟨_,rfl⟩
  go_loopw[3,16] (fun vo i wr=>∃j:Nat,j<=l.length/\i=Bm Sj j/\eG wr w.1.size vo (Z++eU (l.take j))/\Below w.1.size w wr) (fun _ i _=>l.length-(intOf i).toNat)
  exact⟨0,cg _,rfl,by simpa[eU]using a7,hb⟩;obtain⟨j,hj,rfl,a5,hb2⟩:=hrel;by_cases hlt2:j<l.length
  ·obtain⟨b,off,rfl,gO,hc⟩:=ab WQ;obtain⟨x,hx⟩:=aj l j hlt2;have a8:=(hc.below hb2 gO) j x hx;have ay:=a8.1;have az:=a8.2;obtain⟨aA,aB,hx2⟩:=iF HVL.o x (ct hx);have Ww:(Z++eU (l.take j)).length<=80000000:=by
    rw[cD,kE];have:(l.take j).length<=10000000:=by simp;omega
    omega
   replace hx:=aa hx;clear hc ab a8;go_wp2_with(at_builtin;refine ve lX lX w.1.size (Z++eU (l.take j)) x.1 (x.1+x.2) lX ?c1 (wr.1.size+1) 2 lX ?c2 ?c3 WQ ?c4 ?_)
   case c1=>refine a5.below ?_;(repeat' (first|exact bj _ _|exact bk _|(refine dT ?_ ?_ _)|(refine aT ?_ _)|(refine mC ?_)|(simp;done)|(simp;omega)))
   try(case c2=>exact aD XN lX)
   try(case c3=>exact aD XN lX)
   case c4=>have:=hb2.size;simp;omega
   intro v4 w4 ai af;have hb5:Below w.1.size w w4:=(hb2.trans (by refine kt (B:=wr.1.size) ?_ hb2.size;(repeat' (first|exact bj _ _|exact bk _|(refine dT ?_ ?_ _)|(refine aT ?_ _)|(refine mC ?_)|(simp;done)|(simp;omega))))).trans af;clear af a5 hb2;go_wp2;go_roundw;exact⟨j+1,WQ,Zf,by rw[xw l j x hx.o];simpa using ai,hb5⟩;exact Ti
  go_wp2;go_roundw;exact⟨k+1,WQ,Zf,by rw[xJ ls k l HL.o,<- hZ.o];rw[jz (show l.length<=j by omega)]at a5;exact a5,hb2⟩;exact Ti
 have ak:k=ls.length:=by omega
 subst ak;rw[cI]at a7;have ae:(dV ls).length<=40000000:=by
  have:=qE 10000000 ls On.o;omega
 have YL:=Az (dV ls);have Qo:=aa YL;generalize dV ls=Z at *;clear YL;go_wp2_with fail;refine(Bp w.1.size wr a7 WQ).mono ?_;rintro e w1 ⟨rfl,am,ao⟩;go_wp2_with fail;refine(vJ w.1.size w1 am (by rw[DO];omega)).mono ?_;rintro e w2 ⟨v2,rfl,aq,hb2⟩;go_wp2;go_ret;exact⟨v2,_,rfl,aq,Qo.o.1,Qo.o.2,(hb.trans ao).trans hb2⟩
def jC{x l:RU}(hx:iE x (Mem l))(hv:dI l=VR):dI x=VR:=by
 unfold dI;rw[eL];intro p hp;have:=El hx hv p hp;unfold nT;simp;omega
def Ay(P:PI)(f:Int->Bool)(hs:P.Pairwise (·<·))(hb:∀t∈P,0<=t/\t<=1073741824):dI (Gf P f)=VR:=by
 unfold dI;rw[eL];intro r hr;have h1:=uq f P hs r hr;have h2:=hb _ h1.1;have h3:=hb _ h1.2.1;unfold nT;simp;omega
def BR(a b:RU)(ha:dI a=VR)(hb:dI b=VR):∀t∈dV [a,b],0<=t/\t<=1073741824:=by
 intro t ht;simp only[dV,lB,List.flatMap_nil,eM,oT]at ht;have key:∀l:RU,dI l=VR->t∈eU l->0<=t/\t<=1073741824:=fun l hl h=>by
  unfold eU at h;rw[ur]at h;obtain⟨p,hp,h⟩:=h;have:=iF hl p hp;simp at h;rcases h with rfl|rfl<;>omega
 rcases ht with h|h
 ·exact key a ha h
 exact key b hb h
def zD(a b:RU):∀r,r∈a\/r∈b->r.1∈dV [a,b]/\r.1+r.2∈dV [a,b]:=by
 intro r hr;simp only[dV,lB,List.flatMap_nil,eM,oT];have key:∀l:RU,r∈l->r.1∈eU l/\r.1+r.2∈eU l:=fun l hl=>by
  unfold eU;rw[ur,ur];exact⟨⟨r,hl,XN⟩,⟨r,hl,XN⟩⟩
 rcases hr with h|h
 ·exact⟨.inl (key a h).1,.inl (key a h).2⟩
 exact⟨.inr (key b h).1,.inr (key b h).2⟩
def Past(a:RU)(i:Nat)(n:Int):Prop:=∀p∈a.take i,p.1+p.2<=n
def LD{a:RU}:Past a 0 n:=by intro p hp;simp at hp
def tO{x:H5}(h:Past a i n)(hx:a[i]?=Vv x)(hn:x.1+x.2<=n):Past a (i+1) n:=by
 unfold Past;rw[take_snoc' a i x hx];intro p hp;rcases AS.1 hp with hp|hp
 ·exact h p hp
 simp at hp;subst hp;exact hn
def zO{m:Int}(h:Past a i n)(hm:n<=m):Past a i m:=fun p hp=>by have:=h p hp;omega
def zU(ha:NF a)(h:Past a i n)(x:H5)(hx:a[i]?=Vv x)(h2:n<x.1+x.2):kO a n=V7 (x.1<=n):=by
 rw[mN,EK ha i n h (fun y hy=>by rw[hx]at hy;cases hy;exact h2)];constructor
 ·rintro⟨y,hy,h⟩;rw[hx]at hy;cases hy;simpa using h
 intro h;exact⟨x,hx,Tdx⟩
def wV(ha:NF a)(h:Past a i n)(hi:a.length<=i):kO a n=VN:=by
 have hn:a[i]?=VX:=xj hi;rw[Bool.eq_false_iff];intro hc;rw[EK ha i n h (fun y hy=>by rw[hn]at hy;cases hy)]at hc;obtain⟨y,hy,_⟩:=hc;rw[hn]at hy;cases hy
def Ch(P:PI)(f:Int->Bool):Gf (P.take (0+1)) f=[]:=by
 cases P with
 |nil=>rfl
 |cons a t=>simp[Gf]
def vD(w:H7)(S:Int->Prop)(N:Nat)(e:Ending)(w':H7):Prop :=
 ∃v x,e=S6 (Vj #[v,Bm Sj 0])/\bM w' w.1.size v x/\iE x S/\dI x=VR/\x.length<=N/\Below w.1.size w w'
def TcV(h:gt:=by
 go_wp2;go_quiet ((refine po (HC.o _ _ _)))
 go_wp2;go_meet
 exact⟨by rw[HF.o];simp only[];rw[HA2.o,cm.o],aT (bj _ _) _⟩):=h
def Ta8(h:gt:=by
 rcases hB with⟨hB1,hB2⟩|⟨y,hB1,hy,Sk,hB2⟩|⟨y,hB1,hy,Sk,hB2⟩
 ·have hB3:V7 (k'<xb.length)=VN:=by simp;omega
  have cm:=aa hB2;clear hB2;exact TcV
 ·obtain⟨bb,as9,rfl,B9,hcb⟩:=hpb WQ;have hcc:=(hcb.below (mn hb34 C5) B9) k' y hy;have hcb1:=hcc.1;have cm:=aa hB2;clear hB2 hcb hpb hcc hy;exact TcV
 obtain⟨bb,as9,rfl,B9,hcb⟩:=hpb WQ;have hcc:=(hcb.below (mn hb34 C5) B9) k' y hy;have hcb1:=hcc.1;have cm:=aa hB2;clear hB2 hcb hpb hcc hy;have hB3:V7 (y.1<=t)=VN:=by simp;omega
 exact TcV):=h
def TbH(h:gt:=by
 by_cases hxt:x.1<=t
 ·exact .inr (.inl ⟨x,hia,hx,hxt,by rw[this];simpa using hxt⟩)
 exact .inr (.inr ⟨x,hia,hx,WQ,by rw[this];simpa using hxt⟩)):=h
def TbF(h:gt:=by
 obtain⟨h1,e1⟩:=List.getElem?_eq_some_iff.1 ht;obtain⟨h2,e2⟩:=List.getElem?_eq_some_iff.1 ht2;have:=List.pairwise_iff_getElem.1 HP.o.1 m (m+1) h1 h2 WQ;omega):=h
theorem zG(c:Bool->Bool->Bool)(ao:c VN VN=VN)(gf:Nat)(eg:∀args w,(callFunc gf args).run prog w=.ok (.enter gf args) w)
  (YM:∀b1 b2 w,Calls prog gf #[Ft b1,Ft b2] w fun e w'=>e=S6 (Ft (c b1 b2))/\w'=w)
  (a b:RU) (v1 v2:zY) (w:H7) (hr1:xo w v1 a) (hr2:xo w v2 b) (aw:dI a=VR) (ay:dI b=VR) (hl1:a.length<=1000000) (aV:b.length<=1000000):Calls prog 170 #[v1,v2,.func (.func gf) #[] #[]] w (vD w (fun n=>c (kO a n) (kO b n)=VR) (2*(a.length+b.length))):=by
 have Zx:=aa aw;have Vn:=aa ay;have HC:=aa YM;replace ao:=aa ao;clear aw ay YM;have RZ:=hr1;have sB:=hr2;obtain⟨pa,ca,rfl,_⟩:=RZ;obtain⟨pb,cb,rfl,_⟩:=sB;go_enter func170,ntmps170
 go_wp2_with fail;refine(qK [a,b] (xK w a b hr1 hr2)).mono ?_;rintro e w1 ⟨rfl,az⟩;have a8:Below w.1.size w w1:=mn ((bj _ _).alloc (bk _) _) az;have hv:[a,b].all dI=VR:=by simp[Zx.o,Vn.o]
 go_wp2_with fail;refine(jJ a w1 (hr1.below a8) Zx.o WQ).mono ?_;rintro e w2 ⟨va,xa,rfl,aA,R1,aW,hb2⟩;have a9:=mn a8 hb2;go_wp2_with fail;refine(jJ b w2 (hr2.below a9) Vn.o WQ).mono ?_;rintro e w3 ⟨vb,xb,rfl,gR,qu,aX,hb3⟩;have af:=mn a9 hb3;have PA:=aA.rd.below hb3;have PB:=gR.rd;clear hr1 hr2 aA gR az hb2 hb3 a8 a9 hv;have aB:=jC R1 Zx.o;have XV:=jC qu Vn.o;have Hn:=aa R1;have Qp:=aa qu;have aq:=aa aB;replace XV:=aa XV;clear R1 qu aB;have RZ:=PA;have sB:=PB;obtain⟨qa,aY,rfl,V8,YN,Qq⟩:=RZ;obtain⟨qb,aZ,rfl,b8,YO,hpb⟩:=sB;go_wp2_with fail;refine(Co [xa,xb] (xK w3 xa xb PA PB) (by simp[aq.o,XV.o]) XN ZY).mono ?_;rintro e w4 ⟨vp,P,rfl,aC,hP,aJ,aE⟩;have hb34:Below w3.1.size w3 w4:=mn ((bj _ _).alloc (bk _) _) aE;have b9:P.length<=2*(a.length+b.length):=by
  have h1:=kE xa;have h2:=kE xb;have h3:(dV [xa,xb]).length=(eU xa).length+(eU xb).length:=by simp[dV]
  omega
 have YP:∀t∈P,0<=t/\t<=1073741824:=fun t ht=>BR xa xb aq.o XV.o t ((hP.2 t).1 ht);have HP:=aa hP;replace YP:=aa YP;clear hP aJ PA PB;obtain⟨qp,cp,rfl,Ui,Sa,Un⟩:=aC.rd;clear aC aE;obtain⟨f,hf⟩:∃f:Int->Bool,f=fun t=>c (kO xa t) (kO xb t):=⟨_,rfl⟩;have HF:=aa hf;clear hf;go_wp2
 go_loopw[9,10,11,12] (fun vo vi vk vn wr=>∃m i k:Nat,m<=P.length/\i<=xa.length/\k<=xb.length/\vn=Bm Sj m/\vi=Bm Sj i/\vk=Bm Sj k /\
   (∀t,P[m]?=Vv t->Past xa i t/\Past xb k t)/\bM wr w4.1.size vo (Gf (P.take (m+1)) f)/\Below w4.1.size w4 wr) (fun _ _ _ vn _=>P.length-(intOf vn).toNat)
 case atStart=>exact⟨0,0,0,cg _,cg _,cg _,rfl,rfl,rfl,fun t _=>⟨LD,LD⟩,by rw[Ch];exact bM.nil _ _,bj _ _⟩
 obtain⟨m,i,k,hm,hi,hk,rfl,rfl,rfl,Uz,a7,hb⟩:=hrel;replace Uz:=aa Uz;obtain⟨o,ho⟩:∃o,o=Gf (P.take (m+1)) f:=⟨_,rfl⟩;rw[<- ho]at a7;have bd:o.length<=2*(a.length+b.length):=by rw[ho];have:=wJ f (P.take (m+1));simp at this;omega
 replace ho:=aa ho;by_cases hlt:m+1<P.length
 ·obtain⟨bp,PC,rfl,aF,au⟩:=Un WQ;obtain⟨t,ht⟩:=aj P m WQ;obtain⟨t2,ht2⟩:=aj P (m+1) hlt;have Wy:=(au.below hb aF) m t ht;obtain⟨Sd,Sg⟩:=Uz.o t ht;have aG:=aa Sd;have Sh:=aa Sg;obtain⟨be,bf⟩:=YP.o t (ct ht);obtain⟨aK,aL⟩:=YP.o t2 (ct ht2);have bg:t<t2:=by
   exact TbF
  have HT:=aa ht;have HT2:=aa ht2;clear ht ht2 Sd Sg;have av:V7 ((m:Int)+1<(P.length:Int))=VR:=by simp;omega
  go_upto_block 2 with fail
  obtain⟨wo,rfl⟩:∃wo:H7,wo=wr:=⟨_,rfl⟩;clear Wy
  go_cut[10] (fun vi wc=>∃i:Nat,i<=xa.length/\vi=Bm Sj i/\Past xa i t/\(∀x,xa[i]?=Vv x->t<x.1+x.2)/\Below wo.1.size wo wc)
  case first =>
   go_wp2_with fail;go_loopw[10] (fun vi wr=>∃i:Nat,i<=xa.length/\vi=Bm Sj i/\Past xa i t/\Below wo.1.size wo wr) (fun vi _=>xa.length-(intOf vi).toNat)
   exact⟨i,hi,rfl,aG.o,bj _ _⟩;obtain⟨i',hi',rfl,Uz,hb5⟩:=hrel;have ab:=aa Uz;clear Uz;have ak:=mn hb hb5;by_cases hia:i'<xa.length
   ·obtain⟨ba,Si,rfl,ag,mB⟩:=Qq WQ;obtain⟨x,hx⟩:=aj xa i' hia;have hcc:=(mB.below (mn hb34 ak) ag) i' x hx;have aM:=hcc.1;have aN:=hcc.2;obtain⟨aO,aP,hx2⟩:=iF aq.o x (ct hx);have HX:=aa hx;clear mB Qq hcc hx;by_cases hend:x.1+x.2<=t
    ·go_wp2;go_quiet (fail);go_wp2;go_roundw
     exact⟨i'+1,WQ,Zf,tO ab.o HX.o hend,aT hb5 _⟩;exact Ti
    have ah:V7 (x.1+x.2<=t)=VN:=by simp;omega
    go_wp2;go_quiet (fail);go_wp2;go_meet;exact⟨i',hi',rfl,ab.o,fun y hy=>by rw[HX.o]at hy;cases hy;omega,aT hb5 _⟩
   have bh:V7 (i'<xa.length)=VN:=by simp;omega
   go_wp2;go_quiet (fail);go_wp2;go_meet;exact⟨i',hi',rfl,ab.o,fun y hy=>absurd (AT.1 hy).1 WQ,aT hb5 _⟩
  case rest =>
   clear aG;obtain⟨i',hi',rfl,Uz,a5,hb5⟩:=hcut;have ab:=aa Uz;have Wz:=aa a5;clear Uz a5;have ak:=mn hb hb5;go_upto_block 4 with fail
   obtain⟨Qr,rfl⟩:∃Qr:H7,Qr=wc:=⟨_,rfl⟩
   go_cut[11] (fun vk wc=>∃k:Nat,k<=xb.length/\vk=Bm Sj k/\Past xb k t/\(∀x,xb[k]?=Vv x->t<x.1+x.2)/\Below Qr.1.size Qr wc)
   case first =>
    go_wp2_with fail;go_loopw[11] (fun vk wr=>∃k:Nat,k<=xb.length/\vk=Bm Sj k/\Past xb k t/\Below Qr.1.size Qr wr) (fun vk _=>xb.length-(intOf vk).toNat)
    exact⟨k,hk,rfl,Sh.o,bj _ _⟩;obtain⟨k',hk',rfl,Uz,sh⟩:=hrel;have ae:=aa Uz;clear Uz;have C5:=mn ak sh;by_cases hkb:k'<xb.length
    ·obtain⟨bb,as9,rfl,B9,hcb⟩:=hpb WQ;obtain⟨x,hx⟩:=aj xb k' hkb;have hcc:=(hcb.below (mn hb34 C5) B9) k' x hx;have aM:=hcc.1;have aN:=hcc.2;obtain⟨aO,aP,hx2⟩:=iF XV.o x (ct hx);have HX:=aa hx;clear hcb hpb hcc hx;by_cases hend:x.1+x.2<=t
     ·go_wp2;go_quiet (fail);go_wp2;go_roundw
      exact⟨k'+1,WQ,Zf,tO ae.o HX.o hend,aT sh _⟩;exact Ti
     have ah:V7 (x.1+x.2<=t)=VN:=by simp;omega
     go_wp2;go_quiet (fail);go_wp2;go_meet;exact⟨k',hk',rfl,ae.o,fun y hy=>by rw[HX.o]at hy;cases hy;omega,aT sh _⟩
    have aQ:V7 (k'<xb.length)=VN:=by simp;omega
    go_wp2;go_quiet (fail);go_wp2;go_meet;exact⟨k',hk',rfl,ae.o,fun y hy=>absurd (AT.1 hy).1 WQ,aT sh _⟩
   case rest =>
    clear Sh;obtain⟨k',hk',rfl,Uz,a5,sh⟩:=hcut;have ae:=aa Uz;replace a5:=aa a5;clear Uz;have C5:=mn ak sh;have hA:(xa.length<=i'/\kO xa t=VN)\/(∃x,i'<xa.length/\xa[i']?=Vv x/\x.1<=t/\kO xa t=VR)\/(∃x,i'<xa.length/\xa[i']?=Vv x/\t<x.1/\kO xa t=VN):=by
     by_cases hia:i'<xa.length
     ·obtain⟨x,hx⟩:=aj xa i' hia;have:=zU Hn.o.1 ab.o x hx (Wz.o x hx);exact TbH
     exact .inl ⟨WQ,wV Hn.o.1 ab.o WQ⟩
    have hB:(xb.length<=k'/\kO xb t=VN)\/(∃x,k'<xb.length/\xb[k']?=Vv x/\x.1<=t/\kO xb t=VR)\/(∃x,k'<xb.length/\xb[k']?=Vv x/\t<x.1/\kO xb t=VN):=by
     by_cases hia:k'<xb.length
     ·obtain⟨x,hx⟩:=aj xb k' hia;have:=zU Qp.o.1 ae.o x hx (a5.o x hx);exact TbH
     exact .inl ⟨WQ,wV Qp.o.1 ae.o WQ⟩
    go_upto_region 15 with fail
    obtain⟨Uo,rfl⟩:∃Uo:H7,Uo=wc:=⟨_,rfl⟩
    go_cut[107] (fun v wc=>v=Ft (f t)/\Below Uo.1.size Uo wc)
    case first =>
     rcases hA with⟨hA1,hA2⟩|⟨x,hA1,hx,hxt,hA2⟩|⟨x,hA1,hx,hxt,hA2⟩
     ·have hA3:V7 (i'<xa.length)=VN:=by simp;omega
      have HA2:=aa hA2;clear hA2;exact Ta8
     ·obtain⟨ba,Si,rfl,ag,mB⟩:=Qq WQ;have hcc:=(mB.below (mn hb34 C5) ag) i' x hx;have WB:=hcc.1;have HA2:=aa hA2;clear hA2 mB Qq hcc hx;exact Ta8
     obtain⟨ba,Si,rfl,ag,mB⟩:=Qq WQ;have hcc:=(mB.below (mn hb34 C5) ag) i' x hx;have WB:=hcc.1;have HA2:=aa hA2;clear hA2 mB Qq hcc hx;have hA3:V7 (x.1<=t)=VN:=by simp;omega
     exact Ta8
    case rest =>
     clear hA hB;obtain⟨rfl,rn⟩:=hcut;have ai:=mn C5 rn;have bi:=(au.below ai aF) (m+1) t2 HT2.o;clear au;have am:∀t',P[m+1]?=Vv t'->Past xa i' t'/\Past xb k' t':=fun t' h=>by
      rw[HT2.o]at h;cases h
      exact⟨zO ab.o WQ,zO ae.o WQ⟩
     replace am:=aa am;cases hft:f t
     ·have yq:Gf (P.take (m+1+1)) f=o:=by rw[tu P f m t t2 HT.o HT2.o,<- ho.o,hft];simp
      have B6:=aa yq;clear yq;go_wp2;go_roundw;exact⟨m+1,i',k',WQ,hi',hk',Zf,rfl,rfl,am.o,by rw[B6.o];exact a7.below (mn (mn hb5 sh) rn),ai⟩;exact Ti
     have yq:Gf (P.take (m+1+1)) f=o++[(t,t2-t)]:=by rw[tu P f m t t2 HT.o HT2.o,<- ho.o,hft];simp
     have B6:=aa yq;clear yq;go_wp2_with(at_builtin;refine jg lX lX w4.1.size o (t,t2-t) lX ?c1 wc.1.size 1 lX ?c2 ?c3 WQ ?c4 ?_)
     case c1=>refine(a7.below (mn (mn hb5 sh) rn)).below ?_;(repeat' (first|exact bj _ _|exact bk _|(refine dT ?_ ?_ _)|(refine aT ?_ _)|(refine mC ?_)|(simp;done)|(simp;omega)))
     try(case c2=>exact aD XN lX)
     try(case c3=>exact aD XN lX)
     case c4=>have:=ai.size;simp;omega
     intro v8 w8 aR aH _;have aS:Below w4.1.size w4 w8:=(ai.trans (by refine kt (B:=wc.1.size) ?_ ai.size;(repeat' (first|exact bj _ _|exact bk _|(refine dT ?_ ?_ _)|(refine aT ?_ _)|(refine mC ?_)|(simp;done)|(simp;omega))))).trans aH;clear aH a7;go_wp2;go_roundw;exact⟨m+1,i',k',WQ,hi',hk',Zf,rfl,rfl,am.o,by rw[B6.o];exact aR,aS⟩;exact Ti
 have av:V7 ((m:Int)+1<(P.length:Int))=VN:=by simp;omega
 have yq:Gf P f=o:=by
  have:=ho.o;rw[jz WQ]at this;exact this.symm
 have Rx:dI o=VR:=by rw[<- yq];exact Ay P f HP.o.1 YP.o
 have B6:=aa yq;replace Rx:=aa Rx;clear yq;go_wp2_with fail;refine(jJ o wr a7.rd Rx.o WQ).mono ?_;rintro e w5 ⟨v5,x5,rfl,aU,aI,bl,hb5⟩;go_wp2;go_ret2;refine⟨v5,x5,rfl,aU.mono (mn (mn af hb34) hb).size,aI.congr (fun n=>?_),jC aI Rx.o,WQ,mn (mn (mn af hb34) hb) hb5⟩;rw[<- B6.o,HF.o,xD xa xb c ao.o P HP.o.1 (fun r hr=>by
  have:=zD xa xb r hr;exact⟨(HP.o.2 _).2 this.1,(HP.o.2 _).2 this.2⟩) n]
 rw[Nf (Hn.o.2 n),Nf (Qp.o.2 n)]
def cM(x y:Bool):Bool:=x&&!y
def EY(b1 b2:Bool)(w:H7):Calls prog 171 #[Ft b1,Ft b2] w fun e w'=>e=S6 (Ft (cM b1 b2))/\w'=w:=by
 cases b1<;>cases b2<;>(go_enter func171,ntmps171;go_wp2;go_ret;exact⟨rfl,rfl⟩)
def DK(a b:RU)(v2:zY)(w:H7)(hr1:xo w v1 a)(hr2:xo w v2 b)(a7:dI a=VR)(a8:dI b=VR)(hl1:a.length<=1000000)(a9:b.length<=1000000):Calls prog 142 #[v1,v2] w (vD w (fun n=>cM (kO a n) (kO b n)=VR) (2*(a.length+b.length))):=by
 have a5:=zG cM lX 171 (enters_of func171 Yp lX) EY a b v1 v2 w hr1 hr2 a7 a8 hl1 a9;replace a5:=aa a5;clear hr1 hr2 a7 a8;go_enter func142,ntmps142
 go_wp2_with fail;refine a5.o.mono ?_;rintro e w' ⟨v,x,rfl,h⟩;have H:=aa h;clear h;go_wp2;go_ret2;exact⟨v,x,rfl,H.o⟩
open Go.Shelf
variable {x:gy}{ps:wy gy}
attribute [local go_sem] Oper.semAt_some
def fM(nm:H6)(ext:Int)(ps:wy gy):RU:=ps.filterMap fun p=>if p.disk=nm/\0<=p.start/\p.start<ext/\0<p.len then Vv (p.start,min p.len (ext-p.start)) else VX
def NH{ext:Int}(ps:wy gy)(h:x.disk=nm/\0<=x.start/\x.start<ext/\0<x.len):fM nm ext (ps++[x])=fM nm ext ps++[(x.start,min x.len (ext-x.start))]:=by
 simp[fM,E0,h]
def jO{ext:Int}(ps:wy gy)(h:¬(x.disk=nm/\0<=x.start/\x.start<ext/\0<x.len)):fM nm ext (ps++[x])=fM nm ext ps:=by
 unfold fM;rw[E0,List.filterMap_cons,bh h];simp
def nR(nm:H6)(ext:Int)(ps:wy gy):(fM nm ext ps).length<=ps.length:=List.length_filterMap_le _ _
def DF{ext:Int}:∀p∈fM nm ext ps,0<=p.1/\0<p.2/\p.1+p.2<=ext:=by
 intro p hp;unfold fM at hp;obtain⟨x,_,hx⟩:=List.mem_filterMap.1 hp;by_cases c:x.disk=nm/\0<=x.start/\x.start<ext/\0<x.len
 ·rw[aw c]at hx;injection hx with hx;subst hx;dsimp only;omega
 rw[bh c]at hx
 cases hx
def uI{ext:Int}(h:ext<=1000000):dI (fM nm ext ps)=VR:=by
 unfold dI;rw[eL];intro p hp;have:=DF p hp;simp[nT];omega
def xG(Gb:wy az)(F9:wy ay)(nm:H6)(w:H7)(e:Ending)(w':H7):Prop :=
 match bH Gb nm with
 |none=>e=S6 (Vj #[FG VX 0 0,Bm Sj 12])/\Below w.1.size w w'
 |some D=>zz w (Mem (fM nm D.Gc (pieces F9))) (fM nm D.Gc (pieces F9)).length e w'
def Tep(h:gt:=by simp only[cW];omega):=h
theorem CG{ok:LN}(name:H6)(id seq ext nx:Int)(tp dp vp hp:IH)(tl tc dc vc hl hc:Nat)(Gb:wy az)(F9:wy ay)(nm:H6)(w:H7)(hr:ck aO 7 ok w [FG dp Gb.length dc] Gb)(hd:Gb.length<=1000)(Sl:∀D∈Gb,Wq D.tags<=1000)(vu:∀D∈Gb,0<=D.Gc/\D.Gc<=1000000)
  (hv:ck aN 6 ok w [FG vp F9.length vc] F9) (mb:F9.length<=1000) (ht:qx F9) (CH:∀p∈pieces F9,0<=p.start/\p.start<=1000000) (aT:(pieces F9).length<=100000):Calls prog 141 #[Tk (Tao name id seq ext nx tl tp tc Gb.length dp dc F9.length vp vc hl hp hc),By nm] w (xG Gb F9 nm w):=by
 refine callsIn_wide (n:=3) |>.1 ?_;refine callsIn_of_wp_marks func141 lX trivial ?_ lX;simp only[ntmps141,List.size_toArray,cS,ux,Nat.reduceAdd,Nat.reduceSub,Array.replicate_succ,Array.replicate_zero,List.push_toArray,List.append_toArray,GO,IT];refine wpIn_wide.2 ?_;have a8:Below w.1.size w ((w.alloc (Sx (Tao name id seq ext nx tl tp tc Gb.length dp dc F9.length vp vc hl hp hc) 31)).alloc (Sx #[nm] 9)):=((bj _ _).alloc (bk _) _).alloc XN _;have RC:((w.alloc (Sx (Tao name id seq ext nx tl tp tc Gb.length dp dc F9.length vp vc hl hp hc) 31)).alloc (Sx #[nm] 9)).1.size=w.1.size+2:=by simp
 have ab:((w.alloc (Sx (Tao name id seq ext nx tl tp tc Gb.length dp dc F9.length vp vc hl hp hc) 31)).alloc (Sx #[nm] 9)).1[w.1.size]?=Vv (Sx (Tao name id seq ext nx tl tp tc Gb.length dp dc F9.length vp vc hl hp hc) 31 (0,0)):=(cj _ _ _ XN).trans (b9 w _);have hn2:((w.alloc (Sx (Tao name id seq ext nx tl tp tc Gb.length dp dc F9.length vp vc hl hp hc) 31)).alloc (Sx #[nm] 9)).1[w.1.size+1]?=Vv (Sx #[nm] 9 (0,0)):=by
  have:=b9 (w.alloc (Sx (Tao name id seq ext nx tl tp tc Gb.length dp dc F9.length vp vc hl hp hc) 31)) (Sx #[nm] 9);rw[cW]at this;exact this
 replace hr:=aa hr;replace hv:=aa hv;replace ht:=aa ht;replace Sl:=aa Sl;replace vu:=aa vu;replace CH:=aa CH;replace ab:=aa ab;replace hn2:=aa hn2;replace a8:=aa a8;replace RC:=aa RC;go_wp2_with fail;generalize aB:AI (AI w _) _=W2 at *;clear aB;refine(vV (ok:=ok) name id seq ext nx tp dp vp hp tl tc dc F9.length vc hl hc Gb nm W2 ((ck.moves aO.moves).mv ⟨a8.o.size,fun b hb ho=>⟨ho,a8.o.block b hb⟩⟩ hr.o) hd Sl.o).mono ?_;rintro e w3 ⟨hb3,hm⟩;have af:=(hb3.block _ (aq ab.o)).trans ab.o;have ag:=(hb3.block _ (aq hn2.o)).trans hn2.o;have cJ:=YS a8 hb3;have aU:w.1.size+2<=w3.1.size:=by have:=hb3.size;have:=RC.o;omega
 clear hb3;unfold xG;cases hf:bH Gb nm with
 |none =>
  rw[hf]at hm;obtain rfl:=hm;clear af ag;have TF:=aa (cJ.o.trans ((ae w3 (Sx Tal 69)).mono cJ.o.size));go_wp2;exact⟨Vj #[FG VX 0 0,Bm Sj 12],by simp[results,Tryz.results141,go_sem],by unfold xG;rw[hf];exact⟨rfl,TF.o⟩⟩
 |some D =>
  rw[hf]at hm;obtain⟨p3,n3,c3,rfl⟩:=hm;have ah:Below w3.1.size w3 ((w3.alloc (Sx (Tas D n3 p3 c3) 69)).alloc (Sx #[FG VX 0 0] 92)):=((bj _ _).alloc (bk _) _).alloc XN _;have ai:((w3.alloc (Sx (Tas D n3 p3 c3) 69)).alloc (Sx #[FG VX 0 0] 92)).1.size=w3.1.size+2:=by simp
  have ao:((w3.alloc (Sx (Tas D n3 p3 c3) 69)).alloc (Sx #[FG VX 0 0] 92)).1[w3.1.size]?=Vv (Sx (Tas D n3 p3 c3) 69 (0,0)):=(cj _ _ _ XN).trans (b9 w3 _);have au:((w3.alloc (Sx (Tas D n3 p3 c3) 69)).alloc (Sx #[FG VX 0 0] 92)).1[w3.1.size+1]?=Vv (Sx #[FG VX 0 0] 92 (0,0)):=by
   have:=b9 (w3.alloc (Sx (Tas D n3 p3 c3) 69)) (Sx #[FG VX 0 0] 92);rw[cW]at this;exact this
  have av:=(ah.block _ (aq af)).trans af;have aw:=aa ((ah.block _ (aq ag)).trans ag);have YQ:=cr av;have y0:=xr YQ;have eI:=YS cJ ah;have aA:=aa ao;have WC:=aa au;replace ai:=aa ai;clear YQ ah ao au av af ag;go_wp2_with fail;clear y0;generalize aE:AI (AI w3 _) _=W4 at *;clear aE;refine(Ew name id seq ext nx tp dp vp hp tl tc Gb.length dc F9.length vc hl hc W4).mono ?_;rintro e w5 ⟨rfl,rfl⟩;have hb5:=ae W4 (Sx (Tao name id seq ext nx tl tp tc Gb.length dp dc F9.length vp vc hl hp hc) 31);have aF:=aa (b9 W4 (Sx (Tao name id seq ext nx tl tp tc Gb.length dp dc F9.length vp vc hl hp hc) 31));have aG:=Zl hb5 aA;have aH:=Zl hb5 WC;have QS:=Zl hb5 aw;have eK:=YS eI hb5;have aI:Hid (W4.1.size<(W4.alloc (Sx (Tao name id seq ext nx tl tp tc Gb.length dp dc F9.length vp vc hl hp hc) 31)).1.size):=aa XN;have Sm:=vu.o D (eV hf);clear hb5;go_wp2;generalize aJ:AI W4 _=W5 at *;have aK:=ai.o;generalize aL:W4.1.size=Bg at *;generalize aM:w3.1.size=Bd at *;generalize aV:W5.1.size=B1 at *;clear aJ aA WC aw eI ai;have aW:=aI.o;have aX:Bd+2<=Bg:=by omega
  clear aK aM aL;refine(wpIn_wide (n:=3)).1 ?_;refine wpIn_rangeFunc_ownH (F:=Fence.wide) lX WQ (gf:=181) (lb:=#[SL (Vv Bg)]) lX trivial (enters_of func181 Yp lX)
   (zh (3-1) w.1.size Bg W5 vp vc F9 (by simp[AN,aF.o]) WQ WQ ((ck.moves aN.moves).mv ⟨eK.o.size,fun b hb ho=>⟨hb,eK.o.block b hb⟩⟩ hv.o) ht.o mb) KpT.trans
   (fun W l o o' hl h h1 h2=>⟨belowK_b (w:=W5) WQ W l o o' hl h h1 h2,fun k cs t z e _=>(grownBy_putObj' W l o').block k (aq e) (fun q=>by injection q with q;subst q;rw[e]at h;injection h with h;subst h;cases h1)⟩) (bj _ _) (fun _=>rfl)
   (fun pre W=>∃v,W.1[Bd+1]?=Vv (Sx #[v] 92 (0,0))/\bM W B1 v (fM nm D.Gc pre)/\W.1[Bd]?=Vv (Sx (Tas D n3 p3 c3) 69 (0,0))/\W.1[w.1.size+1]?=Vv (Sx #[nm] 9 (0,0))/\Below w.1.size w W/\B1<=W.1.size)
   (fun _ _ _=>False) ?own (fun _ _ _ _ _ h _ _=>h) ?init
   (fun x a' W=>∃Bx,W.1[Bx]?=Vv (Sx (TaU x) 221 (0,0))/\B1<=Bx/\a'=⟨#[Tk (Tao name id seq ext nx tl tp tc Gb.length dp dc F9.length vp vc hl hp hc),By nm,SL (Vv w.1.size),SL (Vv (XM (w.1.size+1) 0)),FG VX 0 0,Bm Sj 0,SL (Vv Bd),Ft VR,SL (Vv (XM (Bd+1) 0)),SL (Vv ⟨Bx,0,VX⟩),Vj #[Tk (Tas D n3 p3 c3),VR],Tk (Tao name id seq ext nx tl tp tc Gb.length dp dc F9.length vp vc hl hp hc),By nm,Vj #[Tk (Tas D n3 p3 c3),VR],Tk (Tas D n3 p3 c3),Ft VR,Ft VR,Ft VN,Tk (Tao name id seq ext nx tl tp tc Gb.length dp dc F9.length vp vc hl hp hc),.func (.func 181) #[] #[SL (Vv Bg)],Tk (TaU x),uu,uu,uu,uu,uu,uu,uu,uu,uu,uu,uu,uu,uu,uu,uu,uu,uu,uu,uu,uu,uu,uu,uu,uu,uu,uu,uu,uu,uu,uu,uu,uu,uu,uu,uu,uu,uu,uu,uu],[]⟩) ?ax ?assign ?body ?done ?stop
  case own =>
   rintro pre W W' row ⟨v,h1,h2,h3,h4,h5,h6⟩ hg hr;exact⟨v,xu hg hr h1,keepR hg hr h2,xu hg hr h3,xu hg hr h4,h5.grown hg h5.size (fun k e=>by have:=(hr k e).1;omega),cA h6 hg.size⟩
  case init=>exact⟨FG VX 0 0,aH.o,bM.nil _ _,aG.o,QS.o,eK.o,WQ⟩
  case ax =>
   rintro x a' _ W W' row ⟨Bx,h1,h2,h3⟩ hg hr;exact⟨Bx,xu hg hr h1,h2,h3⟩
  case assign =>
   rintro l pre x W K ⟨v,h1,h2,h3,h4,h5,h6⟩ hK;have HI:=aa (⟨h1,h2,h3,h4,h5,h6⟩:_/\_/\_/\_/\_/\_);clear h1 h2 h3 h4 h5;have HK:=aa hK;clear hK;simp only[FN,List.zip_toArray,List.zip_cons_cons,List.zip_nil_right,List.foldl_toArray,cF,cq,xT,List.set_cons_succ,List.set_cons_zero];gi_wp2
   have hI:=HI.o;have PX:=ae W (Sx (TaU x) 221);refine HK.o _ _ ((KeepsOthers.alloc _ _).from _) (KpT.of_below PX hI.2.2.2.2.1.size) ⟨v,(PX.block _ (aq hI.1)).trans hI.1,World.ownsRow.alloc hI.2.1 _,(PX.block _ (aq hI.2.2.1)).trans hI.2.2.1,(PX.block _ (aq hI.2.2.2.1)).trans hI.2.2.2.1,hI.2.2.2.2.1.alloc hI.2.2.2.2.1.size _,cA h6 PX.size⟩ ⟨W.1.size,b9 W _,h6,rfl⟩
  case body =>
   rintro l pre x a' W hl ⟨r,hr⟩ ⟨v,h1,h2,h3,h4,h5,h6⟩ ⟨Bx,hx,hBx,rfl⟩ hlt;clear hr r;have x1:=cr hx 1 _ lX;have x2:=cr hx 2 _ lX;have x3:=cr hx 3 _ lX;have d3:=cr h3 3 _ lX;have n0:=cr h4 0 _ lX;have l0:=cr h1 0 _ lX;have mA:=h5.size;have HI:=aa (⟨h1,h2,h3,h4,h5⟩:_/\_/\_/\_/\_);clear h1 h2 h3 h4 h5 hx;by_cases c1:x.disk=nm
   ·have e1:(x.disk.toList==nm.toList)=VR:=by rw[c1];simp
    by_cases c2:0<=x.start
    ·by_cases c3:x.start<D.Gc
     ·by_cases c4:0<x.len
      ·have HC:=aa (NH (ext:=D.Gc) pre ⟨c1,c2,c3,c4⟩);have aY:=Sm.1;have aZ:=Sm.2;have hw:IntKind.i64.wrap (D.Gc-x.start)=D.Gc-x.start:=dy _ WQ;have ez:=nR nm D.Gc pre;have On:(fM nm D.Gc pre).length<=100000:=by omega
       clear ez;obtain⟨i0,hi,du,R0,RC⟩:=gg DT;replace hi:=aa hi;replace du:=aa du;replace R0:=aa R0;replace RC:=aa RC;replace c1:=aa c1;gi_wp2_with (gi_at_builtin;refine DZ ?_)
       refine aa ?_;refine wpListIn_append_own _ lX _ _ 92 lX B1 49 i0 _ 2 16 underlying92 hi.o du.o R0.o RC.o lX YR v (fM nm D.Gc pre).length (bU (fM nm D.Gc pre)) lX (World.ownsRow.alloc HI.o.2.1 _) ⟨W.1.size,0,VX⟩ 1 1 [Bm Sj x.start,Bm Sj (min x.len (D.Gc-x.start))] lX rfl (fun j u hu=>by rw[iz,eJ];exact aD lX (by simpa using hu)) Tdj Tdh WQ Tep ?_;intro v' w1 a5 a7 _;obtain⟨g',aj,rfl⟩:=ownsRow_succ a5;obtain⟨i1,i2,i3,i4,i5⟩:=HI.o;have hA:=ae W (Sx #[Bm Sj x.start,Bm Sj (min x.len (D.Gc-x.start))] 49);have Qs:∀k,v.ownBlock=Vv k->B1<=k/\∃a9,W.1[k]?=Vv (Sx a9 49 (0,0)):=fun k e=>⟨(fh i2 k e).1,by
        rcases i2.2 with⟨rfl,_⟩|⟨g,cap,a9,rfl,_,XQ,_⟩
        ·cases e
        obtain rfl:g=k:=by injection e
        exact⟨a9,XQ⟩⟩
       have kb:∀k,k<W.1.size->v.ownBlock≠Vv k->w1.1[k]?=W.1[k]?:=fun k hk hn=>(a7.block k (cC hk hA.size) (fun e=>hn e.symm)).trans (hA.block k hk);have Uq:w1.1[Bd+1]?=Vv (Sx #[v] 92 (0,0)):=(kb _ (aq i1) (fun e=>by have:=(Qs _ e).1;omega)).trans i1;have l1:=cr Uq 0 _ lX
       have lf:w1.frozen? (XM (Bd+1) 0)=VN:=by simp[BT,Uq]
       have b8:W.1.size<=w1.1.size:=cA hA.size a7.size;have PD:Below w.1.size W w1:=((bj _ W).alloc mA _).grown a7 (cA mA hA.size) (fun k e=>by have:=(Qs k e).1;omega);have aP:Hid (∀u:zY,KeepsFrom W5.1.size W (w1.setCell (XM (Bd+1) 0) u)/\KpT w.1.size W (w1.setCell (XM (Bd+1) 0) u)/\(w1.setCell (XM (Bd+1) 0) u).1[Bd+1]?=Vv (Sx #[u] 92 (0,0))/\∀k,k≠Bd+1->(w1.setCell (XM (Bd+1) 0) u).1[k]?=w1.1[k]?):=aa fun u=>by
        have ks:∀k,k≠Bd+1->(w1.setCell (XM (Bd+1) 0) u).1[k]?=w1.1[k]?:=fun k e=>bw _ _ _ _ e;have hs:(w1.setCell (XM (Bd+1) 0) u).1.size=w1.1.size:=by simp[AF]
        refine⟨⟨WQ,fun k o hk ho hc=>?_⟩,⟨PD.setCell (p:=⟨Bd+1,0,VX⟩) (by show w.1.size<=Bd+1;omega) u,fun k cs t z e ht=>?_⟩,block_setCell (i:=0) u Uq,ks⟩
        ·have aQ:=(F1.1 ho).1;have hn1:k≠Bd+1:=fun e=>by
          rw[e,i1]at ho;injection ho with ho;subst ho;cases hc
         have hn2:v.ownBlock≠Vv k:=fun e=>by
          obtain⟨_,a9,q⟩:=Qs k e;rw[q]at ho;injection ho with ho;subst ho;cases hc
         exact(ks k hn1).trans ((kb k aQ hn2).trans ho)
        have hn1:k≠Bd+1:=fun e'=>by
         rw[e',i1]at e;injection e with e;injection e with _ e _;subst e;cases ht
        have hn2:v.ownBlock≠Vv k:=fun e'=>by
         obtain⟨_,a9,q⟩:=Qs k e';rw[q]at e;injection e with e;injection e with _ e _;subst e;cases ht
        exact(ks k hn1).trans (kb k (aq e) hn2)
       replace a5:=aa a5;replace PD:=aa PD;replace kb:=aa kb;replace Qs:=aa Qs;clear a7 hA Uq;gi_wp2
       obtain⟨s1,s2,s3,s4⟩:=aP.o (FG (Vv g') ((fM nm D.Gc pre).length+1) aj);refine⟨s1,s2,_,s3,?_,(s4 _ WQ).trans ((kb.o _ (aq i3) (fun e=>by have:=(Qs.o _ e).1;omega)).trans i3),(s4 _ WQ).trans ((kb.o _ (aq i4) (fun e=>by have:=(Qs.o _ e).1;omega)).trans i4),i5.trans s2.1,cA h6 s2.1.size⟩;rw[HC.o];unfold bM;rw[gJ,cD];exact aC a5.o fun k e=>s4 k (by have:=(fh a5.o k e).1;omega)
      gi_wp2
      exact⟨KeepsFrom.refl _ _,⟨bj _ _,fun _ _ _ _ _ _=>rfl⟩,v,HI.o.1,by rw[jO pre (fun q=>by have:=q.2.2.2;omega)];exact HI.o.2.1,HI.o.2.2.1,HI.o.2.2.2.1,HI.o.2.2.2.2,h6⟩
     gi_wp2
     exact⟨KeepsFrom.refl _ _,⟨bj _ _,fun _ _ _ _ _ _=>rfl⟩,v,HI.o.1,by rw[jO pre (fun q=>by have:=q.2.2.1;omega)];exact HI.o.2.1,HI.o.2.2.1,HI.o.2.2.2.1,HI.o.2.2.2.2,h6⟩
    gi_wp2
    exact⟨KeepsFrom.refl _ _,⟨bj _ _,fun _ _ _ _ _ _=>rfl⟩,v,HI.o.1,by rw[jO pre (fun q=>by have:=q.2.1;omega)];exact HI.o.2.1,HI.o.2.2.1,HI.o.2.2.2.1,HI.o.2.2.2.2,h6⟩
   have e1:=jI c1;gi_wp2
   exact⟨KeepsFrom.refl _ _,⟨bj _ _,fun _ _ _ _ _ _=>rfl⟩,v,HI.o.1,by rw[jO pre (fun q=>c1 q.1)];exact HI.o.2.1,HI.o.2.2.1,HI.o.2.2.2.1,HI.o.2.2.2.2,h6⟩
  case done =>
   rintro Dd xs W hD rfl ⟨v,h1,h2,h3,h4,h5,h6⟩ hK;have l0:=cr h1 0 _ lX;have ez:=nR nm D.Gc (pieces F9);have aR:=(F1.1 hK).1;have HK:=aa hK;clear hK;replace h5:=aa h5;replace h2:=aa h2;clear h1 h3 h4;go_wp2_with fail;refine(tJ (fM nm D.Gc (pieces F9)) v W h2.o.rd (uI Sm.2) WQ).mono ?_;rintro e w7 ⟨v7,x7,rfl,ak,Ur,aS,rn⟩;have am:=(rn.block Dd aR).trans HK.o;replace ak:=aa ak;replace rn:=aa rn;replace Ur:=aa Ur;go_wp2;refine⟨XN,.inl ⟨_,_,rfl,run_takeDeferred am,?_⟩⟩;refine⟨Vj #[v7,Bm Sj 0],by simp[results,Tryz.results141,go_sem],?_⟩;unfold xG;rw[hf];have ba:=rn.o.size;have YT:=h5.o.size;exact⟨v7,x7,rfl,ownsRow_putObj (bM.mono ak.o YT) _ am lX,Ur.o,aS,(h5.o.trans (rn.o.mono YT)).trans (belowK_b (w:=w) (bk _) w7 Dd _ _ WQ am lX rfl)⟩
  case stop =>
   rintro D c pre W _ _ h _;exact h.elim
end
section
variable {X:LN}{bs bb Lv L:Nat}{nv vv sv:zY}{g:af}{w0 w:H7}{cs:zY->Array zY}{l0:wy aB}{ps:wy (H6 × H5)}{nx:PI}{xs:Array zY}{n:Int}
def zR(Gb:wy az)(F9:wy ay)(nm:H6)(w:H7)(e:Ending)(w':H7):Prop :=
 match bH Gb nm with
 |none=>e=S6 (Vj #[FG VX 0 0,Bm Sj 12])/\Below w.1.size w w'
 |some D=>vD w (fun n=>(0<=n/\n<D.Gc)/\¬Mem (fM nm D.Gc (pieces F9)) n) (2*((pieces F9).length+1)) e w'
def TeW(h:gt:=by simp[dI,nT];omega):=h
def Di{ok:LN}(name:H6)(id seq ext nx:Int)(tp dp vp hp:IH)(tl tc dc vc hl hc:Nat)(Gb:wy az)(F9:wy ay)(nm:H6)(w:H7)(hr:ck aO 7 ok w [FG dp Gb.length dc] Gb)(hd:Gb.length<=1000)(Sl:∀D∈Gb,Wq D.tags<=1000)(vu:∀D∈Gb,0<=D.Gc/\D.Gc<=1000000)
  (hv:ck aN 6 ok w [FG vp F9.length vc] F9) (mb:F9.length<=1000) (ht:qx F9) (CH:∀p∈pieces F9,0<=p.start/\p.start<=1000000) (ai:(pieces F9).length<=100000):Calls prog 94 #[Tk (Tao name id seq ext nx tl tp tc Gb.length dp dc F9.length vp vc hl hp hc),By nm] w (zR Gb F9 nm w):=by
 have a5:=ae w (Sx (Tao name id seq ext nx tl tp tc Gb.length dp dc F9.length vp vc hl hp hc) 31);have a8:=b9 w (Sx (Tao name id seq ext nx tl tp tc Gb.length dp dc F9.length vp vc hl hp hc) 31);replace hr:=aa hr;replace hv:=aa hv;replace ht:=aa ht;replace Sl:=aa Sl;replace vu:=aa vu;replace CH:=aa CH;replace a8:=aa a8;replace a5:=aa a5;go_enter func94,ntmps94
 go_wp2_with fail;generalize RE:AI w _=W1 at *;clear RE;refine(CG (ok:=ok) name id seq ext nx tp dp vp hp tl tc dc vc hl hc Gb F9 nm W1 ((ck.moves aO.moves).mv ⟨a5.o.size,fun b hb ho=>⟨ho,a5.o.block b hb⟩⟩ hr.o) hd Sl.o vu.o ((ck.moves aN.moves).mv ⟨a5.o.size,fun b hb ho=>⟨ho,a5.o.block b hb⟩⟩ hv.o) mb ht.o CH.o ai).mono ?_;rintro e w2 hu;unfold xG at hu;cases hf:bH Gb nm with
 |none =>
  rw[hf]at hu;obtain⟨rfl,hb2⟩:=hu;have cm:=YS a5 hb2;clear hb2;go_wp2;refine eC (v:=Vj #[FG VX 0 0,Bm Sj 12]) (by simp[results,Tryz.results94,go_sem]) lX ?_;unfold zR;rw[hf];exact⟨rfl,cm.o⟩
 |some D =>
  rw[hf]at hu;obtain⟨v2,x2,rfl,a9,Sn,aj,hb2⟩:=hu;have Sm:=vu.o D (eV hf);have ah:=(hb2.block _ (aq a8.o)).trans a8.o;have cm:=YS a5 hb2;replace a9:=aa a9;replace Sn:=aa Sn;clear hb2;have y0:=xr (cr ah);clear ah;go_wp2_with fail;clear y0;refine(vV (ok:=ok) name id seq ext nx tp dp vp hp tl tc dc F9.length vc hl hc Gb nm w2 ((ck.moves aO.moves).mv ⟨cm.o.size,fun b hb ho=>⟨ho,cm.o.block b hb⟩⟩ hr.o) hd Sl.o).mono ?_;rintro e w3 ⟨hb3,hm⟩;rw[hf]at hm;obtain⟨p3,n3,c3,rfl⟩:=hm;have cJ:=YS cm hb3;have ak:=aa (bM.below a9.o hb3);clear hb3;have ab:Below w3.1.size w3 ((w3.alloc (Sx (Tas D n3 p3 c3) 69)).alloc (Sx #[Bm Sj 0,Bm Sj D.Gc] 49)):=((bj _ _).alloc (bk _) _).alloc XN _;have a7:((w3.alloc (Sx (Tas D n3 p3 c3) 69)).alloc (Sx #[Bm Sj 0,Bm Sj D.Gc] 49)).1[w3.1.size+1]?=Vv (Sx #[Bm Sj 0,Bm Sj D.Gc] 49 (0,0)):=by
   have:=b9 (w3.alloc (Sx (Tas D n3 p3 c3) 69)) (Sx #[Bm Sj 0,Bm Sj D.Gc] 49);rw[cW]at this;exact this
  replace a7:=aa a7;have eI:=YS cJ ab;have am:=aa (bM.below ak.o ab);clear ab;have hx2:x2.length<=(pieces F9).length:=cA aj (nR _ _ _);go_wp2_with fail;generalize ao:AI (AI w3 _) _=W4 at *;clear ao;have YU:xo W4 (FG (Vv (XM (w3.1.size+1) 0)) 1 1) [(0,D.Gc)]:=⟨_,1,rfl,XN,WQ,fun _=>⟨_,0,rfl,aq a7.o,fun i p hp=>by
   match i,hp with
   |0,hp =>
    obtain rfl:(0,D.Gc)=p:=by simpa using hp
    exact⟨cr a7.o _ _ lX,cr a7.o _ _ lX⟩⟩⟩
  refine(DK [(0,D.Gc)] x2 v2 W4 YU am.o.rd TeW (jC Sn.o (uI Sm.2)) XN WQ).mono ?_;rintro e w5 ⟨v5,x5,rfl,af,Sp,ag,au,hb5⟩;replace af:=aa af;replace Sp:=aa Sp;replace ag:=aa ag;replace hb5:=aa hb5;clear YU;go_wp2;refine eC (v:=Vj #[v5,Bm Sj 0]) (by simp[results,Tryz.results94,go_sem]) lX ?_;unfold zR;rw[hf];have YV:=eI.o.size;refine⟨v5,x5,rfl,bM.mono af.o YV,Sp.o.congr (fun n=>?_),ag.o,?_,eI.o.trans (hb5.o.mono YV)⟩
  ·have hm:kO x2 n=VR↔Mem (fM nm D.Gc (pieces F9)) n:=(fe x2 n).trans (Sn.o.2 n);have h0:kO [(0,D.Gc)] n=VR↔(0<=n/\n<D.Gc):=by simp[kO]
   simp only[cM,eh,tz,h0];rw[<- hm,Bool.not_eq_true]
  simp only[cS,ux]at au;omega
def TcO(h:gt:=by
 have rf:=sr HA.o;go_wp2;exact HK.o A on s ok ps1 nx1 _ _ _ _ _ _ _ _ _ _ _ _ _ _ _ _ _ _ (oH HA.o) hA3 HO.o (((M9.put hA1 hA2 WQ 0 _).put hA1 hA2 WQ 1 _).put hA1 hA2 WQ 2 _ |>.drop HXL) (fun k q=>by have:=Hn.o k q;rw[bw _ _ _ _ (show k≠A by omega),bw _ _ _ _ (show k≠A by omega),bw _ _ _ _ (show k≠A by omega)];exact HX.o k q)):=h
def TaY(h:gt:=by
 conv=>arg 2;whnf
 have c0:=M.m.post.bld.c0;obtain⟨dp,ir,c7,l1,l2⟩:=M.m.post.bld.c7;have cX:=M.m.post.bld.Gj;have gO:=M.m.post.bld.lt;have sy:¬bb=bs:=by omega
 have HXL:=M.xl;have dk:=M.m.took.ok hk.dk;have hp:=dk.pos;have hle:=dk.le;refine kW (fun w'=>w'.cell? bb=Vv (SL (Vv bs))/\w'.cell? (XM bb 7)=Vv (FG dp (Wq g.Gb) ir)) (fun i=>(V7 (i<13)&&!([0,1,2,3,5,6,7,8,12]:wy Nat).contains i)||i==17) Yp ⟨c0,c7⟩ (fun hHeld=>?_);refine gC hQ 0 ?_;refine gC hQ 1 ?_;refine gC hQ 2 ?_;refine gC hQ 3 ?_;refine gC hQ 5 ?_;refine gC hQ 6 ?_;refine gC hQ 7 ?_;refine gC hQ 8 ?_;refine gC hQ 12 ?_;refine cH hQ 4 hHeld ?_;refine cH hQ 9 hHeld ?_;refine cH hQ 10 hHeld ?_;have M7:=M.below ((bj _ _).drew);have pB:bb<w.drew.1.size:=cX;have HX:Hid (∀k,X k->w.drew.1[k]?=w.1[k]?):=aa fun k _=>rfl;have cd0:w.drew.cell? bb=_:=c0;have SQ:w.drew.cell? (XM bb 7)=_:=c7;generalize hwd:w.drew=wd at *;clear hwd c0 c7 hHeld M;have HS:Hid (∀w':H7,w'.1[bb]?=wd.1[bb]?->w'.cell? bb=Vv (SL (Vv bs))/\w'.cell? (XM bb 7)=Vv (FG dp (Wq g.Gb) ir)):=aa fun w' e=>⟨(cd (w:=wd) e).trans cd0,(cd (w:=wd) e).trans SQ⟩;clear cd0 SQ;refine ja (i:=11) (j:=17) lX rfl rfl rfl Yp (fun K1 hK1=>?_) (fun K1 hK1=>?_)
 ·go_simp;refine(bY bs (Wq g.Gb:Int) _ WQ WQ M7.m.post.bld.src).mono ?_;rintro e w6 ⟨dv,rfl,PL,PM,hsN,yr⟩;obtain⟨dd,rfl⟩:∃u:Nat,dv=u:=⟨dv.toNat,WQ⟩;have M8:=M7.read hsN yr;replace HX:Hid (∀k,X k->w6.1[k]?=w.1[k]?):=aa fun k q=>((M7.m.post.bld.readPost hsN yr).loc M7.m.post.bld (.inl q)).trans (HX.o k q);have E6:=aa (yr.block bb pB sy);have L5:=cC pB yr.size;refine hK1.o _ _ (fun _=>HS.o _ E6.o) ?_;clear hK1 K1 hsN yr M7;refine ja (i:=13) (j:=17) lX rfl rfl rfl Yp (fun K1 hK1=>?_) (fun K1 hK1=>?_)
  ·go_simp;refine(M8.area hk dd WQ n hn1 WQ).mono ?_;rintro e w7 ⟨on,s,ok,ps1,nx1,rfl,gw,M9,pC,hlc⟩;have HO:=aa gw;clear gw;replace HX:Hid (∀k,X k->w7.1[k]?=w.1[k]?):=aa fun k q=>(hlc k q).trans (HX.o k q);have E7:=aa (pC.trans E6.o);have au0:=M9.m.post.bld.Gj;refine hK1.o _ _ (fun q=>by simp at q) ?_;clear hK1 K1 M8 pC hlc;refine gC hQ 14 ?_;refine gC hQ 15 ?_;refine gC hQ 16 ?_;refine bS (i:=17) lX rfl Yp (fun K1 hK1=>?_);go_simp;have MA:=M9.fresh (Sx Tau 53);have HA:=aa (b9 w7 (Sx Tau 53));have hA1:=M9.m.hB;have hA2:sv.ownBlock≠Vv w7.1.size:=fun e=>by have:=M9.m.svLt e;omega
   have hA3:L<w7.1.size:=aq M9.lx;have Hn:Hid (∀k,X k->k<w7.1.size):=aa fun k q=>(M9.m.post.bld.xlt k (.inl q)).2;replace HX:Hid (∀k,X k->(w7.alloc (Sx Tau 53)).1[k]?=w.1[k]?):=aa fun k q=>(cj _ _ _ (Hn.o k q)).trans (HX.o k q);refine hK1.o _ _ (fun _=>HS.o _ ((cj _ _ _ au0).trans E7.o)) ?_;clear hK1 K1;have EA:=aa ((cj w7 (Sx Tau 53) _ au0).trans E7.o);generalize DA:w7.alloc _=WA at *;generalize hA:w7.1.size=A at *;clear DA hA;refine eB 18 (fun t ht=>by simp;omega) Yp lX ?_;simp only[cQ,cL];obtain⟨r0,r1,r2⟩:=sv3 (cr HA.o)
   have rf:=sr HA.o;go_wp2;exact HK.o A on s ok ps1 nx1 _ _ _ _ _ _ _ _ _ _ _ _ _ _ _ _ _ _ (oH HA.o) hA3 HO.o (((MA.put hA1 hA2 WQ 0 _).put hA1 hA2 WQ 1 _).put hA1 hA2 WQ 2 _ |>.drop HXL) (fun k q=>by have:=Hn.o k q;rw[bw _ _ _ _ (show k≠A by omega),bw _ _ _ _ (show k≠A by omega),bw _ _ _ _ (show k≠A by omega)];exact HX.o k q)
  go_simp;have MA:=M8.fresh (Sx Tau 53);have HA:=aa (b9 w6 (Sx Tau 53));have hA1:=M8.m.hB;have hA2:sv.ownBlock≠Vv w6.1.size:=fun e=>by have:=M8.m.svLt e;omega
  have hA3:L<w6.1.size:=aq M8.lx;have Hn:Hid (∀k,X k->k<w6.1.size):=aa fun k q=>(M8.m.post.bld.xlt k (.inl q)).2;replace HX:Hid (∀k,X k->(w6.alloc (Sx Tau 53)).1[k]?=w.1[k]?):=aa fun k q=>(cj _ _ _ (Hn.o k q)).trans (HX.o k q);refine hK1.o _ _ (fun _=>HS.o _ ((cj _ _ _ L5).trans E6.o)) ?_;clear hK1 K1;have EA:=aa ((cj w6 (Sx Tau 53) _ L5).trans E6.o);generalize DA:w6.alloc _=WA at *;generalize hA:w6.1.size=A at *;clear DA hA;refine bS (i:=13) lX rfl Yp (fun K1 hK1=>?_);go_simp;refine(MA.area hk dd WQ n hn1 WQ).mono ?_;rintro e w7 ⟨on,s,ok,ps1,nx1,rfl,gw,M9,pC,hlc⟩;have HO:=aa gw;clear gw;replace HX:Hid (∀k,X k->w7.1[k]?=w.1[k]?):=aa fun k q=>(hlc k (.inl q)).trans (HX.o k q);replace HA:=aa ((hlc A (.inr lX)).trans HA.o);refine hK1.o _ _ (fun q=>by simp at q) ?_;clear hK1 K1 pC hlc;refine gC hQ 14 ?_;refine gC hQ 15 ?_;refine gC hQ 16 ?_;refine eB 18 (fun t ht=>by simp;omega) Yp lX ?_;simp only[cQ,cL];obtain⟨r0,r1,r2⟩:=sv3 (cr HA.o)
  exact TcO
 go_simp;have MA:=M7.fresh (Sx Tau 53);have HA:=aa (b9 wd (Sx Tau 53));have hA1:=M7.m.hB;have hA2:sv.ownBlock≠Vv wd.1.size:=fun e=>by have:=M7.m.svLt e;omega
 have hA3:L<wd.1.size:=aq M7.lx;have Hn:Hid (∀k,X k->k<wd.1.size):=aa fun k q=>(M7.m.post.bld.xlt k (.inl q)).2;replace HX:Hid (∀k,X k->(wd.alloc (Sx Tau 53)).1[k]?=w.1[k]?):=aa fun k q=>(cj _ _ _ (Hn.o k q)).trans (HX.o k q);refine hK1.o _ _ (fun _=>HS.o _ (cj _ _ _ pB)) ?_;clear hK1 K1;have EA:=aa (cj wd (Sx Tau 53) _ pB);generalize DA:wd.alloc _=WA at *;generalize hA:wd.1.size=A at *;clear DA hA;refine bS (i:=11) lX rfl Yp (fun K1 hK1=>?_);go_simp;refine(bY bs (Wq g.Gb:Int) _ WQ WQ MA.m.post.bld.src).mono ?_;rintro e w6 ⟨dv,rfl,PL,PM,hsN,yr⟩;obtain⟨dd,rfl⟩:∃u:Nat,dv=u:=⟨dv.toNat,WQ⟩;have M8:=MA.read hsN yr;replace HX:Hid (∀k,X k->w6.1[k]?=w.1[k]?):=aa fun k q=>((MA.m.post.bld.readPost hsN yr).loc MA.m.post.bld (.inl (.inl q))).trans (HX.o k q);have E6:=aa ((yr.block bb MA.m.post.bld.Gj sy).trans EA.o);replace HA:=aa (((MA.m.post.bld.readPost hsN yr).loc MA.m.post.bld (.inl (.inr lX))).trans HA.o);refine hK1.o _ _ (fun _=>HS.o _ E6.o) ?_;clear hK1 K1 hsN yr MA EA;refine bS (i:=13) lX rfl Yp (fun K1 hK1=>?_);go_simp;refine(M8.area hk dd WQ n hn1 WQ).mono ?_;rintro e w7 ⟨on,s,ok,ps1,nx1,rfl,gw,M9,pC,hlc⟩;have HO:=aa gw;clear gw;replace HX:Hid (∀k,X k->w7.1[k]?=w.1[k]?):=aa fun k q=>(hlc k (.inl q)).trans (HX.o k q);replace HA:=aa ((hlc A (.inr lX)).trans HA.o);refine hK1.o _ _ (fun q=>by simp at q) ?_;clear hK1 K1 pC hlc;refine gC hQ 14 ?_;refine gC hQ 15 ?_;refine gC hQ 16 ?_;refine eB 18 (fun t ht=>by simp;omega) Yp lX ?_;simp only[cQ,cL];obtain⟨r0,r1,r2⟩:=sv3 (cr HA.o)
 exact TcO):=h
def qB{Gf:wy aB}
  (M:fw X bs bb nv vv g next w0 Lv cs l0 sv Gf ps nx L xs w) (hk:BOk g next) (n:Int) (hn1:1<=n) (hn2:n<=3) {aJ aK aM aN aO aP aQ aR aS aT aU aV aW ae af ah ai aj ak au aw ay az aA aC aD aF aG aH aI:zY}   (hQ:∀c (a:Act) (d:Tmp) (v:zY) w,Q (.panic c) (a.put (Vv d) v) w->Q (.panic c) a w)
  (HK:Hid (∀(A:Nat) (on:H6) (s:Int) (ok:Bool) (ps1:wy (H6 × H5)) (nx1:PI) (w':H7) (u60 u61 u62 u63 u64 u65 u66 u67 u68 u69 u70 u71 u72 u73 u74 u75 u76:zY),w'.1[A]?=Vv (Sx (Tat on s) 53 (0,0))->L<A->(ok=VR->ps1=[(on,s,n)])->fw X bs bb nv vv g next w0 Lv cs l0 sv Gf (ps++ps1) nx1 L xs w'->(∀k,X k->w'.1[k]?=w.1[k]?)->K ⟨#[SL (Vv bb),c1,c2,c3,c4,c5,c6,c7,Bm Sj n,c9,SL (Vv A),Ft ok,ao,Sf,TO,RK,RW,Rr,SO,Se,St,W0,ZD,Wg,Wr,To,UP,aE,ab,eS,da,dj,dq,fs,gE,ff,fb,fa,mT,me,ph,qe,qk,mu,mw,mx,nF,pr,o4,oE,oR,oS,pe,qt,qv,rl,rm,sE,sa,sd,u60,u61,u62,u63,u64,u65,u66,u67,u68,u69,u70,u71,u72,u73,u74,u75,u76,a7,a8,a9,ae,af,ag,ah,ai,aj,ak,am,au,av,aw,ay,az,aA,aC,aD,aF,aG,aH,aI,lE,lP,gn,iS,im,ka,kc,ke,pt,ta,tb,te,tf,ti,tr,tt,tw,vf,vj,vm,we,wg,wv,yW,a5],[]⟩ w')) :
  Code.wp prog (p9 12) (Exit.then K Q) ⟨#[SL (Vv bb),c1,c2,c3,c4,c5,c6,c7,Bm Sj n,c9,c10,ZS,ao,Sf,TO,RK,RW,Rr,SO,Se,St,W0,ZD,Wg,Wr,To,UP,aE,ab,eS,da,dj,dq,fs,gE,ff,fb,fa,mT,me,ph,qe,qk,mu,mw,mx,nF,pr,o4,oE,oR,oS,pe,qt,qv,rl,rm,sE,sa,sd,yk,zd,zp,aJ,aK,aL,aM,aN,aO,aP,aQ,aR,aS,aT,aU,aV,aW,a7,a8,a9,ae,af,ag,ah,ai,aj,ak,am,au,av,aw,ay,az,aA,aC,aD,aF,aG,aH,aI,lE,lP,gn,iS,im,ka,kc,ke,pt,ta,tb,te,tf,ti,tr,tt,tw,vf,vj,vm,we,wg,wv,yW,a5],[]⟩ w:=by
 exact TaY
def zM{Gf:wy aB}
  (M:fw X bs bb nv vv g next w0 Lv cs l0 sv Gf ps nx L xs w) (hk:BOk g next) (n:Int) (hn1:1<=n) (hn2:n<=3) {ae af ah ai aj ak au aw ay az aA aC aD aF aG aH aI aJ aK aM aN aO aP aQ aR aS aT aU aV aW:zY}   (hQ:∀c (a:Act) (d:Tmp) (v:zY) w,Q (.panic c) (a.put (Vv d) v) w->Q (.panic c) a w)
  (HK:Hid (∀(A:Nat) (on:H6) (s:Int) (ok:Bool) (ps1:wy (H6 × H5)) (nx1:PI) (w':H7) (u85 u86 u87 u88 u89 u90 u91 u92 u93 u94 u95 u96 u97 u98 u99 u100 u101:zY),w'.1[A]?=Vv (Sx (Tat on s) 53 (0,0))->L<A->(ok=VR->ps1=[(on,s,n)])->fw X bs bb nv vv g next w0 Lv cs l0 sv Gf (ps++ps1) nx1 L xs w'->(∀k,X k->w'.1[k]?=w.1[k]?)->K ⟨#[SL (Vv bb),c1,c2,c3,c4,c5,c6,c7,Bm Sj n,c9,c10,ZS,SL (Vv A),Ft ok,TO,RK,RW,Rr,SO,Se,St,W0,ZD,Wg,Wr,To,UP,aE,ab,eS,da,dj,dq,fs,gE,ff,fb,fa,mT,me,ph,qe,qk,mu,mw,mx,nF,pr,o4,oE,oR,oS,pe,qt,qv,rl,rm,sE,sa,sd,yk,zd,zp,a7,a8,a9,ae,af,ag,ah,ai,aj,ak,am,au,av,aw,ay,az,aA,aC,aD,aF,aG,aH,u85,u86,u87,u88,u89,u90,u91,u92,u93,u94,u95,u96,u97,u98,u99,u100,u101,gn,iS,im,ka,kc,ke,pt,ta,tb,te,tf,ti,tr,tt,tw,vf,vj,vm,we,wg,wv,yW,a5],[]⟩ w')) :
  Code.wp prog (p9 16) (Exit.then K Q) ⟨#[SL (Vv bb),c1,c2,c3,c4,c5,c6,c7,Bm Sj n,c9,c10,ZS,ao,Sf,TO,RK,RW,Rr,SO,Se,St,W0,ZD,Wg,Wr,To,UP,aE,ab,eS,da,dj,dq,fs,gE,ff,fb,fa,mT,me,ph,qe,qk,mu,mw,mx,nF,pr,o4,oE,oR,oS,pe,qt,qv,rl,rm,sE,sa,sd,yk,zd,zp,a7,a8,a9,ae,af,ag,ah,ai,aj,ak,am,au,av,aw,ay,az,aA,aC,aD,aF,aG,aH,aI,aJ,aK,aL,aM,aN,aO,aP,aQ,aR,aS,aT,aU,aV,aW,lE,lP,gn,iS,im,ka,kc,ke,pt,ta,tb,te,tf,ti,tr,tt,tw,vf,vj,vm,we,wg,wv,yW,a5],[]⟩ w:=by
 exact TaY
def uU{V:jx α}(hV:Moves V){qS:Nat}{e:TypeId}{i0:TypeInfo}(hu:prog.underlying t=Vv (.slice e))(hi:prog.info? e=Vv i0)(hz:i0.zero=Vv z)(a5:i0.size=sz)(a8:i0.bytes=qS)(a9:z.cells.size=sz)(Hv:qS<=1000)
       
  (aa:o.dst=Vv dd) {s x:Operand} (ab:o.op=Op.call { callee:=Callee.builtin Builtin.append,args:=#[s,x],argTypes:=#[t,t] })
  (B:Nat) (ok:LN) (v:zY) (l:wy α) (p:α) (hs:a.eval s=v) (a7:iL V sz ok w v l) (g c:Nat) (u:RH) (hx:a.eval x=FG (Vv g) 1 c)
  (ez:u.length=sz) (ae:V ok w u p) (af:∀z∈u,z.oneCell'=VR) (hc:∀(j:Nat) (y:zY),u[j]?=Vv y->w.cell? (g,j)=Vv y) (hB:B<=w.1.size)
  (hK:∀cap w',bF V sz e B ok w' (FG (Vv w.1.size) (l.length+1) cap) (l++[p])->Below w.1.size w w'->w.1.size<w'.1.size->K (a.put (Vv dd) (FG (Vv w.1.size) (l.length+1) cap)) w'):Oper.wp prog o a w K Q:=by
 obtain⟨cap,w',hr,ho,hb,hl⟩:=rG (ty:=o.type) hV hu hi hz a5 a8 a9 Hv B ok v l p a7 g c u ez ae af hc hB;unfold Oper.wp;simp[execOp,ab,resolve,invoke,builtin,hs,hx,hr,Result.andThen];show K (a.put o.dst _) w';rw[aa];exact hK cap w' ho hb hl
def TeQ(h:gt:=by simp[World.cell?,e2,hA]):=h
def yX{Gf:wy aB}{Sb A:Nat}{a7:H6}{s s2:Int}
  (M:fw (fD X L) bs bb nv vv g next w0 Lv cs l0 sv Gf ps nx L #[Bm Sj st,Bm Sj n,Bm Sj 8,FG (Vv Sb) 1 1,Bm Sj 0,FG VX 0 0,By ⟨#[]⟩,By ⟨#[]⟩,Bm Sj 0,Bm Sj 0,Bm Sj 0] w) (ag:Lv+1+1<=L) (ah:sv.ownBlock≠Vv L) (UA:L<A)
  (af:w.1[Sb]?=Vv (Sx (Tat on s) 53 (0,0))) (gw:(ZQ (eO (fD X L) Lv sv) bb nv vv) Sb) (hA:w.1[A]?=Vv (Sx (Tat a7 s2) 53 (0,0)))
  (hn1:1<=n) (hn2:n<=3) {ai aj ak au aw ay az aA aC aD aF aG aH aI aJ aK aM aN aO aP aR aT aU aV aW aX aY aZ ba bd be bf:zY}   (hQ:∀c (a:Act) (d:Tmp) (v:zY) w,Q (.panic c) (a.put (Vv d) v) w->Q (.panic c) a w)
  (HK:Hid (∀(gb cap:Nat) (dn:Int) (w':H7) (u104 u105 u106 u107 u108 u109 u110 u111 u112 u113 u114 u115 u116 u117:zY),0<=dn->dn<=n->fw (fD X L) bs bb nv vv g next w0 Lv cs l0 sv Gf ps nx L #[Bm Sj st,Bm Sj n,Bm Sj 8,FG (Vv gb) 2 cap,Bm Sj 0,FG VX 0 0,By ⟨#[]⟩,By ⟨#[]⟩,Bm Sj 0,Bm Sj 0,Bm Sj dn] w'->ck aQ 3 (ZQ (eO (fD X L) Lv sv) bb nv vv) w' [FG (Vv gb) 2 cap] [⟨VN,on,s⟩,⟨VN,a7,s2⟩]->K ⟨#[SL (Vv bb),c1,c2,c3,c4,c5,c6,c7,Bm Sj n,SL (Vv L),c10,ZS,SL (Vv A),Sf,TO,RK,RW,Rr,SO,Se,St,W0,ZD,Wg,Wr,To,UP,aE,ab,eS,da,dj,dq,fs,gE,ff,fb,fa,mT,me,ph,qe,qk,mu,mw,mx,nF,pr,o4,oE,oR,oS,pe,qt,qv,rl,rm,sE,sa,sd,yk,zd,zp,ai,aj,ak,am,ao,au,av,aw,ay,az,aA,aC,aD,aF,aG,aH,aI,aJ,aK,aL,aM,aN,aO,aP,aR,aT,aU,aV,aW,aX,aY,aZ,b8,ba,bd,be,bf,lE,lP,gn,iS,u104,u105,u106,u107,u108,u109,u110,u111,u112,u113,u114,u115,u116,u117,vj,vm,we,wg,wv,yW,a8],[]⟩ w')) :
  Code.wp prog (p9 18) (Exit.then K Q) ⟨#[SL (Vv bb),c1,c2,c3,c4,c5,c6,c7,Bm Sj n,SL (Vv L),c10,ZS,SL (Vv A),Sf,TO,RK,RW,Rr,SO,Se,St,W0,ZD,Wg,Wr,To,UP,aE,ab,eS,da,dj,dq,fs,gE,ff,fb,fa,mT,me,ph,qe,qk,mu,mw,mx,nF,pr,o4,oE,oR,oS,pe,qt,qv,rl,rm,sE,sa,sd,yk,zd,zp,ai,aj,ak,am,ao,au,av,aw,ay,az,aA,aC,aD,aF,aG,aH,aI,aJ,aK,aL,aM,aN,aO,aP,aR,aT,aU,aV,aW,aX,aY,aZ,b8,ba,bd,be,bf,lE,lP,gn,iS,im,ka,kc,ke,pt,ta,tb,te,tf,ti,tr,tt,tw,vf,vj,vm,we,wg,wv,yW,a8],[]⟩ w:=by
 conv=>arg 2;whnf
 have cX:=M.m.post.bld.Gj;have gO:=M.m.post.bld.lt;have Y9:=M.m.post.bld.xlt L (.inl (.inr lX));have a9:L≠bs:=by omega
 have UB:A≠bs:=by omega
 have sy:bb≠bs:=by omega
 have bh:IntKind.i64.wrap (n+1)=n+1:=dy _ WQ;obtain⟨i0,hi,du,R0,RC⟩:=gg kL;have HT:Hid (iL aQ 3 (ZQ (eO (fD X L) Lv sv) bb nv vv) w (FG (Vv Sb) 1 1) [⟨VN,on,s⟩]):=aa ⟨Sb,[Ft VN,By on,Bm Sj s],rfl,aq af,gw,Flat.one lX rfl Tdj,(fun j y hy=>by simp only[AN,af];simpa using hy),XN⟩;have HS:Hid (∀w':H7,w'.1[L]?=w.1[L]?->w'.1[A]?=w.1[A]?->w'.1[bb]?=w.1[bb]?->w'.cell? (XM L 3)=Vv (FG (Vv Sb) 1 1)/\w'.cell? A=Vv (Ft VN)/\w'.cell? (XM A 1)=Vv (By a7)/\w'.cell? (XM A 2)=Vv (Bm Sj s2)/\w'.cell? bb=Vv (SL (Vv bs))):=aa fun w' e1 e2 e3=>⟨by simp[AN,e1,M.lx],TeQ,TeQ,TeQ,(cd (w:=w) e3).trans M.m.post.bld.c0⟩;have UC:A<w.drew.1.size:=aq hA;have UD:L<w.drew.1.size:=Y9.2;have pB:bb<w.drew.1.size:=cX;clear af hA;refine kW (fun w'=>w'.cell? (XM L 3)=Vv (FG (Vv Sb) 1 1)/\w'.cell? A=Vv (Ft VN)/\w'.cell? (XM A 1)=Vv (By a7)/\w'.cell? (XM A 2)=Vv (Bm Sj s2)/\w'.cell? bb=Vv (SL (Vv bs))) (fun i=>V7 (i<13)&&!([0,5,6,7,9,10]:wy Nat).contains i) Yp (HS.o w lX rfl rfl) (fun a5=>?_);refine gC hQ 0 ?_;refine gC hQ 5 ?_;refine gC hQ 6 ?_;refine gC hQ 7 ?_;refine gC hQ 9 ?_;refine gC hQ 10 ?_;refine cH hQ 1 a5 ?_;refine cH hQ 2 a5 ?_;refine cH hQ 8 a5 ?_;have M7:=M.below ((bj _ _).drew);replace HT:Hid (iL aQ 3 (ZQ (eO (fD X L) Lv sv) bb nv vv) w.drew (FG (Vv Sb) 1 1) [⟨VN,on,s⟩]):=aa (HT.o.moves aQ.moves ⟨bk _,fun b _ ho=>⟨ho,rfl⟩⟩);replace HS:Hid (∀w':H7,w'.1[L]?=w.drew.1[L]?->w'.1[A]?=w.drew.1[A]?->w'.1[bb]?=w.drew.1[bb]?->w'.cell? (XM L 3)=Vv (FG (Vv Sb) 1 1)/\w'.cell? A=Vv (Ft VN)/\w'.cell? (XM A 1)=Vv (By a7)/\w'.cell? (XM A 2)=Vv (Bm Sj s2)/\w'.cell? bb=Vv (SL (Vv bs))):=HS;generalize bi:w.drew=wd at *;clear bi a5 M cX Y9 gw bh;have EE:Hid (∀k,k<wd.1.size->k≠bs->wd.1[k]?=wd.1[k]?):=aa fun _ _ _=>rfl;have hz:wd.1.size<=wd.1.size:=bk _;refine bS (i:=3) lX rfl Yp (fun K1 hK1=>?_);go_simp;have MG:=M7.below (ae wd (Sx (Tat a7 s2) 53));have EG:Hid (∀k,k<wd.1.size->k≠bs->(wd.alloc (Sx (Tat a7 s2) 53)).1[k]?=wd.1[k]?):=aa fun k hk hb=>(cj _ _ _ (cC hk hz)).trans (EE.o k hk hb);have HG:=aa (b9 wd (Sx (Tat a7 s2) 53));have UE:wd.1.size<=(wd.alloc (Sx (Tat a7 s2) 53)).1.size:=cA hz XN;have hG:wd.1.size<=wd.1.size:=hz;clear EE hz;refine hK1.o _ _ (fun _=>HS.o _ (EG.o L UD a9) (EG.o A UC UB) (EG.o bb pB sy)) ?_;clear hK1 K1;generalize bl:wd.alloc _=w5 at *;clear bl;refine bS (i:=4) lX rfl Yp (fun K1 hK1=>?_);refine uU aQ.moves underlying47 hi du R0 RC lX YR lX ZR (bb+1) (ZQ (eO (fD X L) Lv sv) bb nv vv) (FG (Vv Sb) 1 1) [⟨VN,on,s⟩] ⟨VN,a7,s2⟩ ZR ?_ wd.1.size 1 [Ft VN,By a7,Bm Sj s2] ZR lX rfl ?_ ?_ ?_ ?_
 ·exact HT.o.moves aQ.moves ⟨UE,fun b hb ho=>⟨ho,EG.o b hb TdJ⟩⟩
 ·simp[Value.oneCell']
 ·intro j y hy;simp only[AN,HG.o];simpa using hy
 ·have:=MG.m.post.bld.Gj;omega
 intro cap w6 ho jn hlt;have MP:=MG.below jn;have EP:Hid (∀k,k<wd.1.size->k≠bs->w6.1[k]?=wd.1[k]?):=aa fun k hk hb=>(jn.block k (cC hk UE)).trans (EG.o k hk hb);have bm:=cA UE jn.size
 have HR:Hid (ck aQ 3 (ZQ (eO (fD X L) Lv sv) bb nv vv) w6 [FG (Vv w5.1.size) 2 cap] [⟨VN,on,s⟩,⟨VN,a7,s2⟩]):=aa (ho.rd aQ.moves YR (fun _ _ q=>q) (fun b e=>by
  obtain rfl:w5.1.size=b:=by injection e
  exact MG.m.post.bld.okNew (bk _)))
 refine hK1.o _ _ (fun _=>HS.o _ (EP.o L UD a9) (EP.o A UC UB) (EP.o bb pB sy)) ?_;generalize w5.1.size=gb at *;clear hK1 K1 ho jn hlt;simp only[aS];clear EG UE MG;have EE:=EP;have hz:=bm;have a5:=HS.o _ (EP.o L UD a9) (EP.o A UC UB) (EP.o bb pB sy);refine cH hQ 12 a5 ?_;clear a5;refine bS (i:=11) lX rfl Yp (fun K1 hK1=>?_);go_simp;refine(bY bs (n+1) _ WQ WQ MP.m.post.bld.src).mono ?_;rintro e w9 ⟨dn,rfl,PN,SR,bg,yr⟩;have EN:Hid (∀k,k<wd.1.size->k≠bs->w9.1[k]?=wd.1[k]?):=aa fun k hk hb=>(yr.block k (cC hk hz) hb).trans (EE.o k hk hb);have MN:=MP.read bg yr;have bp:=cA hz yr.size;have Za:Hid (ck aQ 3 (ZQ (eO (fD X L) Lv sv) bb nv vv) w9 [FG (Vv gb) 2 cap] [⟨VN,on,s⟩,⟨VN,a7,s2⟩]):=aa ((ck.moves aQ.moves).mv ⟨yr.size,fun b hb ho=>⟨ho,yr.block b hb TdJ⟩⟩ HR.o);clear HR;have HR:=Za;clear Za;refine hK1.o _ _ (fun _=>HS.o _ (EN.o L UD a9) (EN.o A UC UB) (EN.o bb pB sy)) ?_;clear hK1 K1 bg yr;clear EE hz;refine eB 13 (fun t ht=>by simp;omega) Yp lX ?_;simp only[cQ,cL];have x3:=cr MN.lx 3 _ lX;have bu:=cr MN.lx 10 _ lX
 have xf:=sr MN.lx;go_wp2;exact HK.o gb cap dn _ _ _ _ _ _ _ _ _ _ _ _ _ _ _ PN WQ ⟨(MN.m.put ag ah 3 _).put ag ah 10 _,block_setCell (i:=10) _ (block_setCell (i:=3) _ MN.lx),.inr lX⟩ ((ck.moves aQ.moves).mv ⟨Tdi,fun b _ ho=>⟨ho,by have U3:b≠L:=fun e=>ho.2.2.2 (.inl (.inr e));rw[bw _ _ _ _ U3,bw _ _ _ _ U3]⟩⟩ HR.o)
def TdA(h:gt:=by simp only[aV];omega):=h
def jW{Gf:wy aB}{Ga:wy aR}{id:Int}{hidden ro:Bool}
  (M:fw (fD X L) bs bb nv vv g next w0 Lv cs l0 sv Gf ps nx L #[Bm Sj st,Bm Sj n,Bm Sj kd,FG ap al ac,Bm Sj 0,FG VX 0 0,By ⟨#[]⟩,By ⟨#[]⟩,Bm Sj 0,Bm Sj 0,Bm Sj dn] w) (a7:Hid (∀v,cs v=#[By name,Bm U8 id,Ft hidden,Ft ro,tv,v])) (GF:Gf.length<=3)
  (hR:ck aQ 3 (ZQ (eO X Lv sv) bb nv vv) w [FG ap al ac] Ga) (a8:fB l0 (Gf++[aV st n kd Ga dn])) (u9:List.Sublist (((Gf++[aV st n kd Ga dn]).drop l0.length).flatMap iG) ps)
  (hn1:1<=n) (hn2:n<=3) {c0 c8 af ah ai aj ak aq au aw ay az aA aC aD aF aG aH aI aJ aK aM aN aO aP aS aT aU aW aX aY aZ b9:zY} 
  (HK:Hid (∀(ba:zY) (w':H7) (u118 u119 u120 u121 u122 u123:zY),MSt X bs bb nv vv g next w0 Lv cs l0 ba (Gf++[aV st n kd Ga dn]) ps nx w'->Q .normal ⟨#[c0,c1,c2,SL (Vv Lv),c4,c5,c6,c7,c8,SL (Vv L),c10,ZS,ao,Sf,TO,RK,RW,Rr,SO,Se,St,W0,ZD,Wg,Wr,To,UP,aE,ab,eS,da,dj,dq,fs,gE,ff,fb,fa,mT,me,ph,qe,qk,mu,mw,mx,nF,pr,o4,oE,oR,oS,pe,qt,qv,rl,rm,sE,sa,sd,yk,zd,zp,a9,af,ag,ah,ai,aj,ak,am,aq,au,av,aw,ay,az,aA,aC,aD,aF,aG,aH,aI,aJ,aK,aL,aM,aN,aO,aP,aS,aT,aU,aW,aX,aY,aZ,b8,b9,lE,lP,gn,iS,im,ka,kc,ke,pt,ta,tb,te,tf,ti,tr,tt,tw,vf,u118,u119,u120,u121,u122,u123,a5],[]⟩ w')) :
  Code.wp prog (p9 19) Q ⟨#[c0,c1,c2,SL (Vv Lv),c4,c5,c6,c7,c8,SL (Vv L),c10,ZS,ao,Sf,TO,RK,RW,Rr,SO,Se,St,W0,ZD,Wg,Wr,To,UP,aE,ab,eS,da,dj,dq,fs,gE,ff,fb,fa,mT,me,ph,qe,qk,mu,mw,mx,nF,pr,o4,oE,oR,oS,pe,qt,qv,rl,rm,sE,sa,sd,yk,zd,zp,a9,af,ag,ah,ai,aj,ak,am,aq,au,av,aw,ay,az,aA,aC,aD,aF,aG,aH,aI,aJ,aK,aL,aM,aN,aO,aP,aS,aT,aU,aW,aX,aY,aZ,b8,b9,lE,lP,gn,iS,im,ka,kc,ke,pt,ta,tb,te,tf,ti,tr,tt,tw,vf,vj,vm,we,wg,wv,yW,a5],[]⟩ w:=by
 conv=>arg 2;whnf
 obtain⟨sp,mL,PO,s1,s2,s3⟩:=(M.m.st.rd bC.moves YR (ok':=fun _=>True) (fun _ _ _=>trivial) (fun _ _=>trivial)).form;subst PO;clear s3;have Md:=M.m.drop;have Zb:=aa M.lx;obtain⟨i0,hi,du,R0,RC⟩:=gg Am;replace hi:=aa hi;replace du:=aa du;replace R0:=aa R0;replace RC:=aa RC;have y0:=IC (cr Zb.o);have v5:w.cell? (XM Lv 5)=Vv (FG sp Gf.length mL):=by simp[AN,Md.bv,a7.o]
 have Qg:Hid (bC (ZQ (eO X Lv (FG sp Gf.length mL)) bb nv vv) w [Bm Sj st,Bm Sj n,Bm Sj kd,FG ap al ac,Bm Sj 0,FG VX 0 0,By ⟨#[]⟩,By ⟨#[]⟩,Bm Sj 0,Bm Sj 0,Bm Sj dn] (aV st n kd Ga dn)):=aa ⟨_,_,rfl,hR,ck.nil⟩;clear hR;have jn:=ae w (Sx #[st,n,kd,FG ap al ac,Bm Sj 0,FG VX 0 0,By ⟨#[]⟩,By ⟨#[]⟩,Bm Sj 0,Bm Sj 0,dn] 55);have be:=Md.hB;replace a8:=aa a8;replace u9:=aa u9;clear M Zb;go_wp2_with(at_builtin;refine Aq bC.moves underlying44 hi.o du.o R0.o RC.o lX YR YR lX lX (Lv+1+1) (fun b=>(ZQ (eO X Lv (FG sp Gf.length mL)) bb nv vv) b/\b<w.1.size) (FG sp Gf.length mL) Gf (aV st n kd Ga dn) lX ?d1 w.1.size 1 [Bm Sj st,Bm Sj n,Bm Sj kd,FG ap al ac,Bm Sj 0,FG VX 0 0,By ⟨#[]⟩,By ⟨#[]⟩,Bm Sj 0,Bm Sj 0,Bm Sj dn] lX rfl ?d2 ?d3 ?d4 ?d5 ?d6 ?d7 ?_)
 case d1=>exact Md.st.moves bC.moves ⟨jn.size,fun b hb ho=>⟨⟨ho,hb⟩,jn.block b hb⟩⟩ (fun k hk=>jn.block k (Md.svLt hk.1))
 case d2=>exact bC.moves.mv ⟨jn.size,fun b hb ho=>⟨⟨ho,hb⟩,jn.block b hb⟩⟩ Qg.o
 case d3=>simp[Value.oneCell']
 case d5=>omega
 case d6 =>
  have:=jn.size;omega
 case d7=>exact fun b hb ho=>(ho.2.2.2 (.inr (.inr (.inr hb)))).elim
 intro gb cap w6 hp;obtain⟨M7,WZ⟩:=Md.push jn hp a8.o u9.o TdA (fun u v=>by rw[a7.o,a7.o];rfl);have u5:w6.cell? (XM Lv 5)=Vv (FG sp Gf.length mL):=by simp[AN,WZ,a7.o]
 have uf:w6.frozen? (XM Lv 5)=VN:=by simp[BT,WZ]
 clear hp WZ y0 v5 jn;go_wp2;exact HK.o _ _ _ _ _ _ _ _ M7
end
end Go.Proofs.YtfmbphdjcghfnaaGreatDoor
