/- Lemmas: AlcE, AlcM, AlcN, AlcF. -/
import Derived.Test.YtjdfihglehfelaaGreatDoorQm37
import Derived.Test.YtjdfihglehfelaaGreatDoorQm35
set_option maxRecDepth 100000
set_option maxHeartbeats 32000000
set_option linter.all false
namespace Go.Proofs.YtjdfihglehfelaaGreatDoor
open Go.Proofs.Tryz
open Go.RowKit Go.Shelf
variable {e:Int}{pre:List (Nat × (Int × Int))}{w:World}{px:Option Addr}{xs:List (List (Int × Int))}{k:Nat}{o:Obj}
attribute [local go_sem] Oper.semAt_some
def pq (l:List (Nat × (Int × Int))):Int:=(l.map (·.2.2)).sum
def UM (g:af)(x:Nat × (Int × Int)):aR:=⟨false,(g.Gb.getD x.1 gT).name,x.2.1⟩
def DN (e:Int)(pre:List (Nat × (Int × Int))):Prop:=∀ rem,qz e (pre++rem)=(pre++(qz (e - pq pre) rem).1,(qz (e - pq pre) rem).2)
theorem DN.nil (e:Int):DN e []:=fun rem=>by simp [pq]
theorem Gu (pre:List (Nat × (Int × Int)))(x:Nat × (Int × Int)):pq (pre++[x])=pq pre+x.2.2:=by simp [pq]
theorem DN.snoc (h:DN e pre)(h0:¬ e - pq pre<=0)(x:Nat × (Int × Int)):DN e (pre++[x]):=fun rem=>by
 rw [cV,h,List.singleton_append,qz,bh h0,Gu,show e - (pq pre+x.2.2)=e - pq pre - x.2.2 by omega];simp
theorem DN.done (h:DN e pre):qz e pre=(pre,e - pq pre):=by
 have:=h [];rw [eM] at this;rw [this];simp [qz]
theorem DN.stop {rem:List (Nat × (Int × Int))}(h:DN e pre)(h0:e - pq pre<=0):qz e (pre++rem)=(pre,e - pq pre):=by
 rw [h];cases rem with
 | nil=>simp [qz]
 | cons x l=>simp [qz,h0]
theorem Gr (xs:List (List (Int × Int))):(iU xs).attach.map (·.1)=iU xs:=List.attach_map_subtype_val _
theorem wI.below {n₀:Nat}{w':World}(h:wI n₀ w px xs)(hb:Below n₀ w w'):wI n₀ w' px xs:=fun k x hx=>by
 obtain ⟨bx,p,c,h1,h2,h3,h4,h5,h6⟩:=h k x hx;refine ⟨bx,p,c,h1,h2,(cd (w:=w) (a:=⟨bx,k,none⟩) (hb.block bx h2)).trans h3,h4,h5,fun h0=>?_⟩;obtain ⟨b,off,e1,e2,e3⟩:=h6 h0;exact ⟨b,off,e1,e2,fun i p hp=>⟨(cd (w:=w) (a:=⟨b,off+i*2,none⟩) (hb.block b e2)).trans (e3 i p hp).1,(cd (w:=w) (a:=⟨b,off+i*2+1,none⟩) (hb.block b e2)).trans (e3 i p hp).2⟩⟩
def Jg (g:af)(a:bN)(r:aY)(px:Option Addr)(cx b0:Nat)(xs:List (List (Int × Int)))(W5:World)(pre:List (GN xs))(W:World):Prop:=∃ v,W.heap[b0+1]?=some (.cells #[v] 57 (0,0))/\W.heap[b0+2]?=some (.cells #[.int .i64 (r.Gc - pq (pre.map (·.1)))] 3 (0,0))/\iC (b0+4) W v ((pre.map (·.1)).map (UM g))/\W.heap[b0]?=some (.cells (Tac g a r xs.length px cx) 120 (0,0))/\Below b0 W5 W/\W5.heap.size<=W.heap.size/\DN r.Gc (pre.map (·.1))/\pre.length<=(iU xs).length
def JY (g:af)(a:bN)(r:aY)(px:Option Addr)(cx b0:Nat)(xs:List (List (Int × Int)))(W5:World)(c:Code)(pre:List (GN xs))(W:World):Prop:=c=.exit 0/\∃ pre0 x,pre=pre0++[x]/\r.Gc - pq (pre0.map (·.1))<=0/\Jg g a r px cx b0 xs W5 pre0 W
theorem Jg.own {g:af}{a:bN}{r:aY}{cx b0:Nat}{W5:World}(hz5:W5.heap.size=b0+4):OwnFrom W5.heap.size (Jg g a r px cx b0 xs W5):=by
 rintro pre W W' row ⟨v,h1,h2,h3,h4,h5,h6,h7,h8⟩ hg hr;obtain ⟨cs,h3a,h3b⟩:=h3;exact ⟨v,xu hg hr h1,xu hg hr h2,⟨cs,keepR hg hr h3a,Flat.moves aQ.moves ⟨hg.size,fun b _ f=>f.elim⟩ _ _ h3b⟩,xu hg hr h4,h5.grown hg Tcd (fun k e=>by have:=(hr k e).1;omega),cA h6 hg.size,h7,h8⟩
theorem lZ {W:World}(h:W.heap[k]?=some o):k<W.heap.size:=(Array.getElem?_eq_some_iff.1 h).1
theorem iC.notObj {B:Nat}{v:Value}{l:List aR}(h:iC B w v l)(hk:w.heap[k]?=some o)(ho:o.isCells=false):v.ownBlock≠some k:=fun e=>by
 obtain ⟨_,hw,_⟩:=h;rcases hw.2 with ⟨rfl,_⟩ | ⟨g,cap,cur,rfl,_,gA,_⟩
 ·cases e
 ·obtain rfl:g=k:=by injection e
  rw [hk] at gA;injection gA with gA
  subst gA;cases ho
noncomputable def He (f:Func):Code:=((f.body.bind Hy).getD .skip)
theorem Jc {ok:Nat->Prop}(Q:Exit->Act->World->Prop){c0 c2 c3 c6 c7 c8 c9 c10 c11 c13 c14 c15 c16 c17 c18 c19 c20 c21 c22 c23 c24 c25 c26 c27 c28 c29 c30 c31 c32:Value}(g:af)(a:bN)(r:aY)(px:Option Addr)(cx b0:Nat)(xs:List (List (Int × Int)))(W5:World)(hz5:W5.heap.size=b0+4)(hq:rC r)(kf:ck aO 7 (fun b=>ok b/\b<b0) W5 [.slice a.dp g.Gb.length a.dc] g.Gb)(CD:g.Gb.length<=1000)(vh:xs.length=g.Gb.length)(OI:xs.length<=cx/\cx<=9223372036854775807)
  (hr:wI b0 W5 px xs) (hx1:∀ x∈xs,x.length<=10000) (Nz:(iU xs).length<=100000) (hyy:∀ y∈iU xs,y.1<g.Gb.length/\1<=y.2.2/\y.2.2<=1000000) (ad3:∀ pre:List (GN xs),pre.length<=(iU xs).length->0<=pq (pre.map (·.1))/\pq (pre.map (·.1))<=1000000000000)
  (ht5:W5.heap[b0+3]?=some (.cells (Tac g a r xs.length px cx) 120 (0,0))) (ht0:W5.heap[b0]?=some (.cells (Tac g a r xs.length px cx) 120 (0,0))) (hl5:W5.heap[b0+1]?=some (.cells #[.slice none 0 0] 57 (0,0))) (he5:W5.heap[b0+2]?=some (.cells #[.int .i64 r.Gc] 3 (0,0)))
  (HK:Hid (∀ (D:Nat) (v:Value) (l:List (Nat × (Int × Int))) (W:World),(qz r.Gc (iU xs)).1=l->W.heap[b0+1]?=some (.cells #[v] 57 (0,0))->W.heap[b0+2]?=some (.cells #[.int .i64 (qz r.Gc (iU xs)).2] 3 (0,0))->iC (b0+4) W v (l.map (UM g))->Below b0 W5 W->W5.heap.size<=W.heap.size->W5.heap.size<=D->W.heap[D]?=some (.deferred (some []))->Q .normal ⟨#[c0,.pointer (some b0),c2,c3,.pointer (some (Tab (b0+1) 0)),.pointer (some (Tab (b0+2) 0)),c6,c7,c8,c9,c10,c11,.func (.func 130) #[] #[.pointer (some (Tab (b0+3) 0))],c13,c14,c15,c16,c17,c18,c19,c20,c21,c22,c23,c24,c25,c26,c27,c28,c29,c30,c31,c32],[{ target:=.collected D,args:=#[] }]⟩ W)) (HKx:Hid (∀ (D:Nat) (v:Value) (l:List (Nat × (Int × Int))) (W:World),(qz r.Gc (iU xs)).1=l->W.heap[b0+1]?=some (.cells #[v] 57 (0,0))->W.heap[b0+2]?=some (.cells #[.int .i64 (qz r.Gc (iU xs)).2] 3 (0,0))->iC (b0+4) W v (l.map (UM g))->Below b0 W5 W->W5.heap.size<=W.heap.size->W5.heap.size<=D->W.heap[D]?=some (.deferred (some []))->Q (.exit 0) ⟨#[c0,.pointer (some b0),c2,c3,.pointer (some (Tab (b0+1) 0)),.pointer (some (Tab (b0+2) 0)),c6,c7,c8,c9,c10,c11,.func (.func 130) #[] #[.pointer (some (Tab (b0+3) 0))],c13,c14,c15,c16,c17,c18,c19,c20,c21,c22,c23,c24,c25,c26,c27,c28,c29,c30,c31,c32],[{ target:=.collected D,args:=#[] }]⟩ W)) :
  (He Tryz.f70).wp prog Q ⟨#[c0,.pointer (some b0),c2,c3,.pointer (some (Tab (b0+1) 0)),.pointer (some (Tab (b0+2) 0)),c6,c7,c8,c9,c10,c11,.func (.func 130) #[] #[.pointer (some (Tab (b0+3) 0))],c13,c14,c15,c16,c17,c18,c19,c20,c21,c22,c23,c24,c25,c26,c27,c28,c29,c30,c31,c32],[]⟩ W5:=by
 conv=>arg 2;whnf
 refine (wpIn_wide (n:=3)).1 ?_
 refine wpIn_rangeFunc_ownH (F:=Fence.wide) rfl Tcd (gf:=130) (lb:=#[.pointer (some (Tab (b0+3) 0))]) rfl trivial (enters_of func130 Tcf rfl)
  (BO (3 - 1) b0 (b0+3) Tcd W5 px cx xs (cz ht5 16 _ rfl) OI Tcd Tcd hr Tcd (fun x hx=>by have:=hx1 x hx;omega))
  Below.trans (fun W l o o' hl h h1 h2=>belowK_b (w:=W5) Tcd W l o o' hl h h1 h2) (bj _ _) (fun _=>rfl)
  (Jg g a r px cx b0 xs W5)
  (JY g a r px cx b0 xs W5) ?own ?ownx ?init
  (fun x a' W=>∃ Br,W.heap[Br]?=some (.cells #[.int .i64 x.1.2.1,.int .i64 x.1.2.2] 62 (0,0))/\W5.heap.size<=Br/\a'=⟨#[c0,.pointer (some b0),c2,c3,.pointer (some (Tab (b0+1) 0)),.pointer (some (Tab (b0+2) 0)),.int .i64 (x.1.1:Int),.pointer (some ⟨Br,0,none⟩),c8,c9,c10,c11,.func (.func 130) #[] #[.pointer (some (Tab (b0+3) 0))],.int .i64 (x.1.1:Int),.agg #[.int .i64 x.1.2.1,.int .i64 x.1.2.2],c15,c16,c17,c18,c19,c20,c21,c22,c23,c24,c25,c26,c27,c28,c29,c30,c31,c32],[]⟩) ?ax ?assign ?body ?done ?stop
 case own=>exact Jg.own hz5
 case init=>exact ⟨.slice none 0 0,hl5,by simpa [pq] using he5,iC.nil _ _,ht0,bj _ _,bk _,DN.nil _,cg _⟩
 case ownx =>
  rintro c pre W W' row ⟨rfl,pre0,x,rfl,h0,hI⟩ hg hr;exact ⟨rfl,pre0,x,rfl,h0,Jg.own hz5 pre0 W W' row hI hg hr⟩
 case ax =>
  rintro x a' _ W W' row ⟨Br,h1,h2,h3⟩ hg hr;exact ⟨Br,xu hg hr h1,h2,h3⟩
 case assign =>
  rintro l pre x W K ⟨v,h1,h2,h3,h4,h5,h6,h7,h8⟩ hK;have HI:=aa (⟨h1,h2,h3,h4,h5,h7,h8⟩:_/\_/\_/\_/\_/\_/\_);clear h1 h2 h3 h4 h5 h7 h8;have HK:=aa hK;clear hK;simp only [IP,List.zip_toArray,List.zip_cons_cons,List.zip_nil_right,List.foldl_toArray,cF,cq,xT,List.set_cons_succ,List.set_cons_zero]
  gi_wp2
  obtain ⟨h1,h2,h3,h4,h5,h7,h8⟩:=HI.o;have sk:=ae W (.cells #[.int .i64 x.1.2.1,.int .i64 x.1.2.2] 62);refine HK.o _ _ ((KeepsOthers.alloc _ _).from _) (sk.mono Tcd) ⟨v,(sk.block _ (aq h1)).trans h1,(sk.block _ (aq h2)).trans h2,h3.below sk,(sk.block _ (aq h4)).trans h4,h5.trans (sk.mono Tcd),cA h6 sk.size,h7,h8⟩ ⟨W.heap.size,b9 W _,h6,rfl⟩
 case body =>
  rintro lr pre x a' W hlr _ ⟨v,h1,h2,h3,h4,h5,h6,h7,h8⟩ ⟨Br,k1,k2,rfl⟩ hlt;have e0:=cz h2 0 _ rfl;have HI:=aa (⟨h1,h2,h3,h4,h5,h7,h8⟩:_/\_/\_/\_/\_/\_/\_);have HK1:=aa k1;clear h1 h2 h3 h4 h5 h7 h8 k1
  by_cases hr0:r.Gc - pq (pre.map (·.1))<=0
  ·have g0:decide (r.Gc - pq (pre.map (·.1))<=0)=true:=eA hr0
   have HR0:=aa hr0;clear hr0
   gi_wp2
   obtain ⟨h1,h2,h3,h4,h5,h7,h8⟩:=HI.o;exact ⟨KeepsFrom.refl _ _,rfl,pre,x,rfl,HR0.o,v,h1,h2,h3,h4,h5,h6,h7,h8⟩
  ·have g0:decide (r.Gc - pq (pre.map (·.1))<=0)=false:=cN hr0
   have HR0:=aa hr0;clear hr0
   gi_wp2
   obtain ⟨i1,i2,i3,i4,i5,i7,i8⟩:=HI.o;obtain ⟨hy1,hy2,hy3⟩:=hyy x.1 x.2;obtain ⟨d,hd⟩:=aj g.Gb x.1.1 hy1;have hsm:=ad3 pre Tcd;refine JE (ok:=fun b=>ok b/\b<b0) _ lr 1 W g a r _ v (b0+4) b0 (b0+1) Br x.1.1 d x.1.2 ((pre.map (·.1)).map (UM g)) i4 i1 HK1.o i3 Tcd (by simp only [fW];omega) ((ck.moves aO.moves).mv ⟨h6,fun b _ hb=>⟨hb,i5.block b hb.2⟩⟩ kf) hd Tcd (aa ?_) (fun _ _ _ _ _ h=>h) (fun ⟨_,_,h⟩=>h);intro v' W' u17 u18 u19 u20 u21 u22 u23 u24 ho hlv hkp hsz hos htp hou;have mA:∀ b,v.ownBlock=some b->b0+4<=b:=fun b e=>(i3.ge e).1;have he2:W'.heap[b0+2]?=some (.cells #[.int .i64 (r.Gc - pq (pre.map (·.1)))] 3 (0,0)):=(hkp _ Tcd Tcd (fun e=>by have:=mA _ e;omega)).trans i2;have hbr:W'.heap[Br]?=some (.cells #[.int .i64 x.1.2.1,.int .i64 x.1.2.2] 62 (0,0)):=(hkp _ (aq HK1.o) Tcd (i3.notT HK1.o Tcg)).trans HK1.o;have e1:=cz he2 0 _ rfl;have ef:=uy he2 0;have r1:=cz hbr 1 _ rfl;have hw:IntKind.i64.wrap (r.Gc - pq (pre.map (·.1)) - x.1.2.2)=r.Gc - pq (pre.map (·.1)) - x.1.2.2:=dy _ (by have:=hq.e;omega);have HX:=aa (⟨i1,i2,i3,i4,i5,i7,i8,ho,hlv,hkp,hos,htp,hou,he2,hd⟩:_/\_/\_/\_/\_/\_/\_/\_/\_/\_/\_/\_/\_/\_/\_);clear i1 i2 i3 i4 i5 i7 i8 ho hlv hkp hos htp hou he2 hbr hd
   gi_wp2
   obtain ⟨i1,i2,i3,i4,i5,i7,i8,ho,hlv,hkp,hos,htp,hou,he2,hd⟩:=HX.o;have ra:∀ (u:Value) k,k≠b0+2->(W'.setCell (Tab (b0+2) 0) u).heap[k]?=W'.heap[k]?:=fun u k e=>bw _ _ _ _ e;have Ud:∀ u:Value,(W'.setCell (Tab (b0+2) 0) u).heap.size=W'.heap.size:=fun u=>by simp [World.setCell]
   have PD:∀ u:Value,Below b0 W (W'.setCell (Tab (b0+2) 0) u):=fun u=>⟨hos,htp,hou,by rw [Ud];exact hsz,fun b hb=>(ra u b Tcd).trans (hkp b Tcd Tcd (fun e=>by have:=mA _ e;omega))⟩;refine ⟨⟨by rw [Ud];exact hsz,fun k o hk hk1 hk2=>(ra _ k Tcd).trans ((hkp k (lZ hk1) Tcd (i3.notObj hk1 hk2)).trans hk1)⟩,PD _,v',(ra _ _ Tcd).trans hlv,?_,?_,(ra _ _ Tcd).trans ((hkp _ Tcd Tcd (fun e=>by have:=mA _ e;omega)).trans i4),i5.trans (PD _),(by rw [Ud];exact cA h6 hsz),?_,?_⟩
   ·have:=block_setCell (i:=0) (.int .i64 (r.Gc - pq (pre.map (·.1)) - x.1.2.2)) he2
    rw [gl,List.map_singleton,Gu,show r.Gc - (pq (pre.map (·.1))+x.1.2.2)=r.Gc - pq (pre.map (·.1)) - x.1.2.2 by omega];exact this
   ·rw [gl,gl,List.map_singleton,List.map_singleton]
    have ha:UM g x.1=⟨false,d.name,x.1.2.1⟩:=by unfold UM;rw [List.getD_eq_getElem?_getD,hd];rfl
    rw [ha];exact iC.keep (B:=b0+4) ho (by rw [Ud];exact bk _) fun k e=>ra _ k (by have:=(iC.ge ho e).1;omega)
   ·rw [gl,List.map_singleton]
    exact i7.snoc (by have:=HR0.o;omega) _
   ·rw [cD,A4]
    exact hlt
 case done =>
  rintro D ys W hD rfl ⟨v,h1,h2,h3,h4,h5,h6,h7,h8⟩ hK;rw [Gr] at h2 h3 h7;have hpf:=h7.done;exact HK.o D v (iU xs) W (by rw [hpf]) h1 (by rw [hpf];exact h2) h3 h5 h6 hD hK
 case stop =>
  rintro D c pre W hD ⟨rem,ah3⟩ ⟨rfl,pre0,x,rfl,h0,⟨v,h1,h2,h3,h4,h5,h6,h7,h8⟩⟩ hK
  have hpf:qz r.Gc (iU xs)=(pre0.map (·.1),r.Gc - pq (pre0.map (·.1))):=by
   have e1:=fj (List.map fun z:GN xs=>z.1) ah3;rw [Gr,cV,gl] at e1;exact (fj (qz r.Gc) e1.symm).trans (h7.stop h0)
  refine wpIn_exit ?_;exact HKx.o D v (pre0.map (·.1)) W (by rw [hpf]) h1 (by rw [hpf];exact h2) h3 h5 h6 hD hK
end Go.Proofs.YtjdfihglehfelaaGreatDoor
namespace Go.Proofs.YtjdfihglehfelaaGreatDoor
open Go.Proofs.Tryz
open Go.RowKit
variable {xs:List (List (Int × Int))}
theorem GZ:∀ (i:Nat) (xs:List (List (Int × Int))) (y:Nat × (Int × Int)),y∈zQ i xs->∃ k x,xs[k]?=some x/\y.1=i+k/\y.2∈x
 | _,[],_,h=>by cases h
 | i,x :: r,y,h=>by
  rw [zQ,oT] at h;rcases h with h | h
  ·obtain ⟨p,hp,rfl⟩:=List.mem_map.1 h
   exact ⟨0,x,rfl,rfl,hp⟩
  ·obtain ⟨k,x',hk,e,hp⟩:=GZ (i+1) r y h
   exact ⟨k+1,x',by simpa using hk,Tcd,hp⟩
theorem GR (m:Nat):∀ (i:Nat) (xs:List (List (Int × Int))),(∀ x∈xs,x.length<=m)->(zQ i xs).length<=xs.length*m
 | _,[],_=>by simp [zQ]
 | i,x :: r,h=>by
  rw [zQ,cD,fW,cS,ie,Nat.one_mul];have h1:=GR m (i+1) r (fun y hy=>h y (kn _ hy));have h2:=h x (cG ..);omega
structure CR (n:Nat)(xs:List (List (Int × Int))):Prop where
 n8:n<=8
 len:xs.length=n
 x1:∀ x∈xs,x.length<=4096
 yl:(iU xs).length<=100000
 yy:∀ y∈iU xs,y.1<n/\0<=y.2.1/\1<=y.2.2/\y.2.1+y.2.2<=4096
theorem II:∀ (l:List (Nat × (Int × Int))),(∀ y∈l,1<=y.2.2/\y.2.2<=4096)->0<=pq l/\pq l<=l.length*4096
 | [],_=>by simp [pq]
 | y :: l,h=>by
  have h1:=II l (fun z hz=>h z (kn _ hz));have h2:=h y (cG ..);simp only [pq,iu,List.sum_cons,cS] at h1 ⊢;omega
theorem CR.sum {n:Nat}(h:CR n xs)(pre:List (GN xs))(hp:pre.length<=(iU xs).length):0<=pq (pre.map (·.1))/\pq (pre.map (·.1))<=1000000000000:=by
 have h1:=II (pre.map (·.1)) (fun y hy=>by
  obtain ⟨z,-,rfl⟩:=List.mem_map.1 hy;have:=h.yy z.1 z.2
  omega)
 have h2:=h.yl;rw [fW] at h1;omega
theorem Hu:∀ (x:List (Int × Int)),(∀ p∈x,1<=p.2)->(x.length:Int)<=G5 x
 | [],_=>by simp [G5]
 | p :: x,h=>by
  have h1:=Hu x (fun q hq=>h q (kn _ hq));have h2:=h p cG;simp only [G5,iu,List.sum_cons,cS] at h1 ⊢;omega
theorem tK.runs {g:af}{r:aY}(hp:E9 g)(h:tK g r xs)(hl:xs.length=g.Gb.length):CR g.Gb.length xs:=by
 have hb:∀ (i:Nat) (x:List (Int × Int)),xs[i]?=some x->x.length<=4096/\∀ p∈x,0<=p.1/\1<=p.2/\p.1+p.2<=4096:=fun i x hx=>by
  obtain ⟨d,hd⟩:=aj g.Gb i (by have:=(List.getElem?_eq_some_iff.1 hx).1;omega);obtain ⟨h1,-,-⟩:=h i d x hd hx;have vu:=hp.de d (ct hd);have hS:∀ n,kI g r d n->0<=n/\n<d.Gc:=fun n q=>(GG q).1;refine ⟨?_,fun p hp'=>?_⟩
  ·have a1:=Hu x h1.1.1
   have a2:=h1.sum_bd vu.1 hS;omega
  ·have q1:=h1.1.1 p hp'
   have q2:=hS p.1 ((h1.2 p.1).1 ⟨p,hp',Tcd,Tcd⟩);have q3:=hS (p.1+p.2 - 1) ((h1.2 _).1 ⟨p,hp',Tcd,Tcd⟩);omega
 have hx1:∀ x∈xs,x.length<=4096:=fun x hx=>by
  obtain ⟨i,hi⟩:=List.mem_iff_getElem?.1 hx;exact (hb i x hi).1
 have CD:=hp.dl;refine ⟨CD,hl,hx1,?_,fun y hy=>?_⟩
 ·have h2:(iU xs).length<=xs.length*4096:=GR 4096 0 xs hx1
  have h3:xs.length*4096<=8*4096:=tA _ Tcd;omega
 ·obtain ⟨k,x,hx,e,hy2⟩:=GZ 0 xs y hy
  have:=(List.getElem?_eq_some_iff.1 hx).1;have h4:=(hb k x hx).2 y.2 hy2;exact ⟨Tcd,h4⟩
def Ic (e:Int)(o:Option (Nat × (Int × Int)))(x:Nat × (Int × Int)):Option (Nat × (Int × Int)) :=
 if e<=x.2.2 then (match o with
  | none=>some x
  | some y=>if x.2.2<y.2.2 then some x else some y) else o
def yh (e:Int)(l:List (Nat × (Int × Int))):Option (Nat × (Int × Int)):=l.foldl (Ic e) none
theorem IK (e:Int)(l:List (Nat × (Int × Int)))(x:Nat × (Int × Int)):yh e (l++[x])=Ic e (yh e l) x:=by simp [yh,List.foldl_append]
theorem GU (e:Int):∀ (l:List (Nat × (Int × Int))) (o:Option (Nat × (Int × Int))),(l.foldl (Ic e) o).isSome=(o.isSome||I6 e l)
 | [],o=>by simp [I6]
 | x :: l,o=>by
  rw [cF,GU e l,show I6 e (x :: l)=(decide (e<=x.2.2)||I6 e l) from rfl];unfold Ic
  by_cases h:e<=x.2.2
  ·rw [aw h,eA h]
   cases o with
   | none=>rfl
   | some y=>by_cases h2:x.2.2<y.2.2 <;> simp [h2]
  ·rw [bh h,cN h,nj]
theorem Jj (e:Int)(l:List (Nat × (Int × Int))):(yh e l).isSome=I6 e l:=by rw [yh,GU];rfl
variable {e st n:Int}{an:Bool}{cl:Nat->ByteArray}{d N:Nat}{s:List (Nat × Int)}
open Classical in
noncomputable def Gp (e:Int)(an:Bool)(cl:Nat->ByteArray)(d:Nat):Nat->Int->Int->List (Nat × Int)->List (Nat × Int)
 | 0,_,_,s=>s
 | f+1,st,n,s=>if e<=n/\(an=true\/cl d ∉ s.map fun p=>cl p.1) then Gp e an cl d f (st+e) (n - e) (s++[(d,st)]) else s
noncomputable def Il (e:Int)(an:Bool)(cl:Nat->ByteArray)(N:Nat)(s:List (Nat × Int))(x:Nat × (Int × Int)):List (Nat × Int):=Gp e an cl x.1 (N - s.length) x.2.1 x.2.2 s
noncomputable def Jk (e:Int)(an:Bool)(cl:Nat->ByteArray)(N:Nat)(l:List (Nat × (Int × Int))):List (Nat × Int):=l.foldl (Il e an cl N) []
theorem Jb (e:Int)(an:Bool)(cl:Nat->ByteArray)(N:Nat)(l:List (Nat × (Int × Int)))(x:Nat × (Int × Int)):Jk e an cl N (l++[x])=Il e an cl N (Jk e an cl N l) x:=by simp [Jk,List.foldl_append]
theorem Iw (e:Int)(an:Bool)(cl:Nat->ByteArray)(d:Nat):∀ (f:Nat) (st n:Int) (s:List (Nat × Int)),(Gp e an cl d f st n s).map (fun p=>cl p.1)=(Ar e an (cl d) f n (s.map fun p=>cl p.1).reverse).reverse
 | 0,_,_,s=>by simp [Gp,Ar]
 | f+1,st,n,s=>by
  by_cases h:e<=n/\(an=true\/cl d ∉ s.map fun p=>cl p.1)
  ·rw [Gp,aw h,Ar,aw (by rwa [List.mem_reverse]),Iw e an cl d f]
   simp
  ·rw [Gp,bh h,Ar,bh (by rwa [List.mem_reverse]),List.reverse_reverse]
theorem Iu (e:Int)(an:Bool)(cl:Nat->ByteArray)(N:Nat):∀ (l:List (Nat × (Int × Int))) (s:List (Nat × Int)),(l.foldl (Il e an cl N) s).map (fun p=>cl p.1)=(Cw e an cl N l (s.map fun p=>cl p.1).reverse).reverse
 | [],s=>by simp [Cw]
 | x :: l,s=>by
  rw [cF,Iu e an cl N l,Il,Iw,List.reverse_reverse,Cw,List.length_reverse,fW]
theorem JL (e:Int)(an:Bool)(cl:Nat->ByteArray)(N:Nat)(l:List (Nat × (Int × Int))):(Jk e an cl N l).map (fun p=>cl p.1)=(Cw e an cl N l []).reverse:=Iu e an cl N l []
theorem Jy (e:Int)(an:Bool)(cl:Nat->ByteArray)(N:Nat)(l:List (Nat × (Int × Int))):(Jk e an cl N l).length=(Cw e an cl N l []).length:=by
 have:=fj List.length (JL e an cl N l)
 rwa [fW,List.length_reverse] at this
theorem JB (h1:e<=n)(h2:s.length<N)(h3:an=true\/cl d ∉ s.map fun p=>cl p.1):Gp e an cl d (N - s.length) st n s=Gp e an cl d (N - (s++[(d,st)]).length) (st+e) (n - e) (s++[(d,st)]):=by
 rw [cD,A4,show N - s.length=(N - (s.length+1))+1 by omega,Gp,aw ⟨h1,h3⟩]
theorem I1 (h:¬ e<=n\/¬ s.length<N\/¬ (an=true\/cl d ∉ s.map fun p=>cl p.1)):Gp e an cl d (N - s.length) st n s=s:=by
 cases hf:N - s.length with
 | zero=>rfl
 | succ f =>
  rw [Gp,bh];rintro ⟨q1,q2⟩;rcases h with h | h | h
  ·exact h q1
  ·omega
  ·exact h q2
open Go.Maps Go.Shelf
variable {B b:Nat}{w w':World}{v:Value}{l:List aR}{xs:List (List aR)}{r:aY}
theorem JU:(prog.info? 57).map (fun i=>(i.zero,i.size,i.bytes))=some (some (.slice none 0 0),1,24):=by kernel_rfl
theorem iC.slice (h:iC B w v l):∃ p n c,v=.slice p n c:=by
 obtain ⟨_,ho,_⟩:=h;rcases ho.2 with ⟨rfl,_⟩ | ⟨g,cap,cur,rfl,_⟩
 ·exact ⟨_,_,_,rfl⟩
 ·exact ⟨_,_,_,rfl⟩
def mi (w:World)(B:Nat)(v:Value)(xs:List (List aR)):Prop :=
 ∃ vs:List Value,w.ownsRow B 57 1 v xs.length vs/\vs.length=xs.length/\∀ (i:Nat) (u:Value) (x:List aR),vs[i]?=some u->xs[i]?=some x->iC B w u x
theorem mi.nil (w:World)(B:Nat):mi w B (.slice none 0 0) []:=⟨[],gS w B _ 1,rfl,fun i u x h=>by cases h⟩
theorem mi.blk (h:mi w B v xs)(hz:w.heap.size<=w'.heap.size)(hk:∀ (k:Nat) (cs:Array Value) (t:TypeId) (z:Nat × Nat),B<=k->w.heap[k]?=some (.cells cs t z)->t=57/\v.ownBlock=some k\/t=60->w'.heap[k]?=w.heap[k]?):mi w' B v xs:=by
 obtain ⟨vs,h1,h2,h3⟩:=h;refine ⟨vs,aC h1 fun k e=>?_,h2,fun i u x hu hx=>?_⟩
 ·rcases h1.2 with ⟨rfl,_⟩ | ⟨g,cap,cur,rfl,hb,gA,_⟩
  ·cases e
  ·obtain rfl:g=k:=by injection e
   exact hk _ _ _ _ hb gA (.inl ⟨rfl,rfl⟩)
 ·have ho:=h3 i u x hu hx
  refine ho.keep hz fun k e=>?_;obtain ⟨_,hw,_⟩:=ho;rcases hw.2 with ⟨rfl,_⟩ | ⟨g,cap,cur,rfl,hb,gA,_⟩
  ·cases e
  ·obtain rfl:g=k:=by injection e
   exact hk _ _ _ _ hb gA (.inr rfl)
theorem mi.below (h:mi w B v xs)(hb:Below w.heap.size w w'):mi w' B v xs:=h.blk hb.size fun k cs t z _ hk _=>hb.block k (lZ hk)
theorem mi.mono {B':Nat}(h:mi w B v xs)(hB:B'<=B):mi w B' v xs:=by
 exact Tbf
theorem mi.cap (h:mi w B v xs):∃ p c,v=.slice p xs.length c/\xs.length<=c/\c<=9223372036854775807:=by
 exact Tbg
theorem mi.at {p:Option Addr}{n c:Nat}(h:mi w B (.slice p n c) xs){k:Nat}{x:List aR}(hx:xs[k]?=some x) :
  ∃ b u,p=some ⟨b,0,none⟩/\B<=b/\b<w.heap.size/\w.cell? ⟨b,k,none⟩=some u/\iC B w u x:=by
 exact Ta1
theorem mi.one {u:Value}(hb:w.heap[b]?=some (.cells #[u] 57 (0,0)))(hB:B<=b)(hu:iC B w u l):mi w B (.slice (some b) 1 1) [l] :=
 ⟨[u],⟨rfl,.inr ⟨b,1,#[u],rfl,hB,hb,bk _,Tcn,rfl,rfl⟩⟩,rfl,fun i y x hy hx=>by
  match i,hy,hx with
  | 0,hy,hx =>
   obtain rfl:=gj hy;obtain rfl:=gj hx;exact hu
  | i+1,hy,_=>simp at hy⟩
theorem iC.one {x:aR}(hb:w.heap[b]?=some (.cells (Tav x) 60 (0,0)))(hB:B<=b):iC B w (.slice (some b) 1 1) [x] :=
 ⟨[.bool x.vol,.string x.on,.int .i64 x.start],⟨rfl,.inr ⟨b,1,_,rfl,hB,hb,bk _,Tcn,rfl,rfl⟩⟩,[.bool x.vol,.string x.on,.int .i64 x.start],[],rfl,rfl,rfl,Tco,rfl⟩
theorem Ha {ops:Array Oper}{rest:List Oper}{o:Oper}{a:Act}{Q:Exit->Act->World->Prop}(hgd:o.guard=none)(s x:Operand)
  (ho:o.op=.call { callee:=.builtin .append,args:=#[s,x],argTypes:=#[67,67] })
  (B:Nat) (v:Value) (xs:List (List aR)) (u:Value) (l:List aR) (hs:a.eval s=v) (hown:mi w B v xs) (hu:iC B w u l) (g c:Nat) (hx:a.eval x=.slice (some g) 1 c)
  (hc:w.cell? g=some u) (hl:xs.length<=100000000) (hB:B<=w.heap.size)
  (h:∀ v' w',mi w' B v' (xs++[l])->Below B w w'->(∀ (b:Nat) (cs:Array Value) (t:TypeId) (z:Nat × Nat),w.heap[b]?=some (.cells cs t z)->t≠57->w'.heap[b]?=w.heap[b]?)->(∀ b,b<w.heap.size->v.ownBlock≠some b->w'.heap[b]?=w.heap[b]?)->wpList prog ops Q rest (a.put o.dst v') w'):wpList prog ops Q (o :: rest) a w:=by
 obtain ⟨i0,hi,hz0,hz1,hz2⟩:=ei JU;obtain ⟨vs,h1,h2,h3⟩:=hown;obtain ⟨pu,nu,cu,rfl⟩:=hu.slice;refine tE w hgd s x 67 ho B 57 i0 _ 1 24 underlying67 hi hz0 hz1 hz2 rfl Tcg v xs.length vs hs h1 ⟨g,0,none⟩ 1 c [.slice pu nu cu] hx rfl (fun j y hy=>?_) Tco Tcn Tcd hB (fun v' w' ho' hg _=>?_)
 ·exact TbL
 ·have tR:∀ b,b<w.heap.size->v.ownBlock≠some b->w'.heap[b]?=w.heap[b]?:=fun b hb hn=>hg.block b hb fun e=>hn e.symm
  have YY:∀ (b:Nat) (cs:Array Value) (t:TypeId) (z:Nat × Nat),w.heap[b]?=some (.cells cs t z)->t≠57->w'.heap[b]?=w.heap[b]?:=fun b cs t z hb ht=>by
   refine tR b (aq hb) fun e=>?_;rcases h1.2 with ⟨rfl,_⟩ | ⟨g',cap,cur,rfl,_,hg',_⟩
   ·cases e
   ·have:g'=b:=by simpa [Value.ownBlock] using e
    subst this;rw [hb] at hg';injection hg' with hg'
    injection hg' with _ e2
    exact ht e2
  have CT:∀ (y:Value) (m:List aR),iC B w y m->iC B w' y m:=fun y m hy=>by
   refine hy.keep hg.size fun k e=>?_;obtain ⟨_,hw,_⟩:=hy;rcases hw.2 with ⟨rfl,_⟩ | ⟨g',cap,cur,rfl,_,hg',_⟩
   ·cases e
   exact TbP
  refine h v' w' ⟨vs++[.slice pu nu cu],by rw [cD];exact ho',by rw [cD,cD,h2];rfl,fun i y m hy hm=>?_⟩ ((bj B w).grown hg hB (fun k hk=>(fh h1 k hk).1)) YY tR
  exact Ta8
def Ec:az:=⟨⟨#[112,118,48]⟩,1,0,10,false,false,[]⟩
def JQ:ay:=⟨⟨#[97]⟩,0,false,false,[],[⟨0,3,1,[⟨false,⟨#[112,118,48]⟩,2⟩],0,[],⟨#[]⟩,⟨#[]⟩,0,0,0⟩]⟩
def uk:af:=⟨⟨#[118,103]⟩,0,0,1,0,[],[Ec],[JQ],[]⟩
def G8:aY:=⟨1,1,4,4,⟨#[]⟩,⟨#[]⟩,⟨#[]⟩⟩
def Ib:aY:=⟨1,1,6,1,⟨#[]⟩,⟨#[]⟩,⟨#[]⟩⟩
theorem Jn:kP uk G8=0:=by kernel_rfl
theorem JW:kP uk Ib=0:=by kernel_rfl
theorem Je:fM Ec.name Ec.Gc (pieces uk.F9)=[(2,3)]:=by
 have h:pieces uk.F9=[⟨⟨#[97]⟩,⟨#[112,118,48]⟩,2,3⟩]:=by kernel_rfl
 rw [h];rfl
theorem JS {x:List (Int × Int)}(hb:nD uk r Ec=true)(hn:uM r=false)(h:iE x (kI uk r Ec)):x=[(0,2),(5,5)]:=by
 refine h.eq (T:=kI uk r Ec) ⟨by constructor <;> decide,fun n=>?_⟩ fun _=>Iff.rfl;unfold kI;rw [hb,bh (by rw [hn];decide)];unfold xy;rw [Je,ko,fK,ko];show _↔true=true/\(0<=n/\n<10)/\_;simp only [true_and];omega
theorem Iy {xs:List (List (Int × Int))}(hb:nD uk r Ec=true)(hn:uM r=false)(h:tK uk r xs)(hl:xs.length=1):xs=[[(0,2),(5,5)]]:=by
 match xs,hl with
 | [x],_=>rw [JS hb hn (h 0 Ec x rfl rfl).1]
theorem JK:nD uk G8 Ec=true:=by kernel_rfl
theorem JN:nD uk Ib Ec=true:=by kernel_rfl
attribute [local go_sem] Oper.semAt_some
def JO (ps:List (List aR))(ok:Bool)(w:World)(e:Ending)(w':World):Prop:=∃ v,e=.returned (.tuple #[v,.bool ok])/\mi w' w.heap.size v ps/\Below w.heap.size w w'
theorem IB (Q:Exit->Act->World->Prop):∃ Q':Exit->Act->World->Prop,(∀ e a w,Q' e a w->Q e a w)/\(∀ a w,Q .normal a w->Q' .normal a w)/\∀ c (a:Act) (d:Tmp) (v:Value) w,Q' (.panic c) (a.put (some d) v) w->Q' (.panic c) a w :=
 ⟨fun e a w=>e=.normal/\Q e a w,fun _ _ _ h=>h.2,fun _ _ h=>⟨rfl,h⟩,fun _ _ _ _ _ h=>nomatch h.1⟩
theorem Hm (Q:Exit->Act->World->Prop){c0 c1 c2 c3 c6 c7 c8 c9 c10 c11 c12 c13 c14 c15 c16 c17 c18 c19 c20 c21 c22 c23 c24 c25 c26 c27 c28 c29 c30 c31 c32:Value}(ds:List Deferred)(w:World)(Bl Br:Nat)(vp:Option Addr)(vn vc:Nat)(n:Int)(hl:w.heap[Bl]?=some (.cells #[.slice vp vn vc] 57 (0,0)))(hr:w.heap[Br]?=some (.cells #[.int .i64 n] 3 (0,0)))
  (HK:Hid (∀ (u29 u30 u31 u32:Value) (b:Nat) (W:World),Below w.heap.size w W->w.heap.size<=b->W.heap[b]?=some (.cells #[.slice vp vn vc] 57 (0,0))->Q .normal ⟨#[c0,c1,.slice (some b) 1 1,.bool (decide (n<=0)),.pointer (some Bl),.pointer (some Br),c6,c7,c8,c9,c10,c11,c12,c13,c14,c15,c16,c17,c18,c19,c20,c21,c22,c23,c24,c25,c26,c27,c28,u29,u30,u31,u32],ds⟩ W)) :
  (Ai Tryz.f70 9).wp prog Q ⟨#[c0,c1,c2,c3,.pointer (some Bl),.pointer (some Br),c6,c7,c8,c9,c10,c11,c12,c13,c14,c15,c16,c17,c18,c19,c20,c21,c22,c23,c24,c25,c26,c27,c28,c29,c30,c31,c32],ds⟩ w:=by
 conv=>arg 2;whnf
 obtain ⟨Q',hq1,hq2,hQ⟩:=IB Q;have Vl:=aa hq2;clear hq2;refine wp_mono ?_ hq1;clear hq1;have HS:Hid (∀ w':World,Below w.heap.size w w'->w'.cell? Bl=some (.slice vp vn vc)/\w'.cell? Br=some (.int .i64 n)):=aa fun w' e=>⟨cz ((e.block _ (aq hl)).trans hl) 0 _ rfl,cz ((e.block _ (aq hr)).trans hr) 0 _ rfl⟩;clear hl hr;refine aL (fun w'=>w'.cell? Bl=some (.slice vp vn vc)/\w'.cell? Br=some (.int .i64 n)) 6 [] Tcf (HS.o _ (bj _ _).drew) (fun hHeld=>?_);refine cH hQ 0 hHeld ?_;try simp only [ak];refine cH hQ 2 hHeld ?_;try simp only [ak];refine cH hQ 3 hHeld ?_;try simp only [ak];refine lR 1 fun K hK=>?_;go_simp;have hb2:Below w.heap.size w (w.drew.alloc (.cells #[.slice vp vn vc] 57)):=(bj w.heap.size w).drew.alloc (bk _) _;refine hK.o _ _ (HS.o _ hb2) ?_;clear hK K hHeld;have hHeld:=HS.o _ hb2;have cm:=aa hb2;clear hb2;refine cH hQ 4 hHeld ?_;try simp only [ak];refine cH hQ 5 hHeld ?_;try simp only [ak];clear cm;refine aP Tcf rfl ?_;simp only [cQ,cL,km];go_wp2;exact Vl.o _ _ (HK.o _ _ _ _ _ _ ((bj w.heap.size w).alloc (bk _) _).drew (bk _) (b9 w _))
theorem Tb7 {p:Prop}(h:p:=by
 ·exact eK.o.trans (H4.o.trans ((J1.o.mono Tcd).trans (belowK_b (w:=w) (bk _) W9 D _ _ Tcd hK9 rfl rfl)))):p:=h
theorem Tb4 {p:Prop}(h:p:=by
 have ho:=H3.o.below J1.o
 exact mi.one ((Q1 b hbl Tcd).trans HN9.o) Tcd ((ho.keep (by simp [World.putObj]) fun k e=>Q1 k (ho.ge e).2 fun q=>ho.notObj hK9 rfl (q ▸ e)).mono Tcd)):p:=h
theorem TaX {p:Prop}(h:p:=by
 intro D v l W hpl h1 h2 h3 h4 h5 h6 hK
 obtain ⟨vp,vn,vc,rfl⟩:=h3.slice
 have hKl:=lZ hK
 have HK:=aa hK
 clear hK
 have H1:=aa h1
 clear h1
 have H2:=aa h2
 clear h2
 have H3:=aa h3
 clear h3
 have H4:=aa h4
 clear h4
 have RL:=aa hpl
 clear hpl
 go_upto_region 9 with (fail)
 refine Hm _ _ W _ _ vp vn vc _ H1.o H2.o (aa ?_)
 intro u29 u30 u31 u32 b W9 hb9 KC hn9
 have hK9:=(hb9.block D hKl).trans HK.o
 have J1:=aa hb9
 clear hb9
 have HN9:=aa hn9
 clear hn9
 go_wp2
 refine ⟨Tce,.inl ⟨_,_,rfl,run_takeDeferred hK9,?_⟩⟩
 refine ⟨.tuple #[.slice (some b) 1 1,.bool (decide ((qz r.Gc (iU xs)).2<=0))],by simp [results,Tryz.results70,go_sem],?_⟩
 have hz9:=J1.o.size
 have Q1:∀ k,k<W9.heap.size->k≠D->(W9.putObj D (.deferred none)).heap[k]?=W9.heap[k]?:=fun k hk hne=>(grownBy_putObj' W9 D _).block k hk (fun q=>by injection q with q;exact hne q)
 have hbl:=aq HN9.o
 refine ⟨_,rfl,?_,?_⟩
 ·rw [RL.o]
  exact Tb4
 exact Tb7):p:=h
theorem Tct {p:Prop}(h:p:=by show w.heap.size<=w.heap.size+2;omega):p:=h
theorem G9 {ok:Nat->Prop}(g:af)(a:bN)(r:aY)(px:Option Addr)(cx:Nat)(xs:List (List (Int × Int)))(w:World)(hq:rC r)(kf:ck aO 7 ok w [.slice a.dp g.Gb.length a.dc] g.Gb)(hx:CR g.Gb.length xs)(OI:xs.length<=cx/\cx<=9223372036854775807)(hr:wI w.heap.size w px xs) :
  Calls prog 70 #[.agg (Tac g a r xs.length px cx)] w (JO [((qz r.Gc (iU xs)).1).map (UM g)] (decide ((qz r.Gc (iU xs)).2<=0)) w):=by
 refine callsIn_wide (n:=3) |>.1 ?_;refine callsIn_of_wp_marks func70 rfl trivial ?_ rfl;simp only [ntmps70,List.size_toArray,cS,gi,Nat.reduceAdd,Nat.reduceSub,Array.replicate_succ,Array.replicate_zero,List.push_toArray,List.append_toArray,List.nil_append,List.cons_append];refine wpIn_wide.2 ?_;have hA1:=ae w (.cells (Tac g a r xs.length px cx) 120);have hN1:=b9 w (.cells (Tac g a r xs.length px cx) 120);generalize hW1:w.alloc (.cells (Tac g a r xs.length px cx) 120)=W1 at *;have hz1:W1.heap.size=w.heap.size+1:=by rw [<- hW1];exact cW ..
 have hA2:=ae W1 (.cells #[.slice none 0 0] 57);have hN2:=b9 W1 (.cells #[.slice none 0 0] 57);generalize hW2:W1.alloc (.cells #[.slice none 0 0] 57)=W2 at *;have hz2:W2.heap.size=w.heap.size+2:=by rw [<- hW2,cW,hz1]
 have hA3:=ae W2 (.cells #[.int .i64 0] 3);have hN3:=b9 W2 (.cells #[.int .i64 0] 3);generalize hW3:W2.alloc (.cells #[.int .i64 0] 3)=W3 at *;have hz3:W3.heap.size=w.heap.size+3:=by rw [<- hW3,cW,hz2]
 rw [hz1] at hN2;rw [hz2] at hN3;have cJ:=aa (hA1.trans ((hA2.mono Tcd).trans (hA3.mono Tcd)));have MX:=aa ((hA3.block _ Tcd).trans ((hA2.block _ Tcd).trans hN1));have QP:=aa ((hA3.block _ Tcd).trans hN2);have HR3:=aa hN3;have c11:=cz ((hA2.block _ Tcd).trans hN1) 11 _ rfl;have c11':=cz MX.o 11 _ rfl;have t3:=cz MX.o;have r3:=cz HR3.o 0 _ rfl;have rf:=uy HR3.o 0;have B2:=aa kf;clear kf;have HX:=aa hx;clear hx;have MW:=aa hr;clear hr;clear hA1 hA2 hA3 hN1 hN2 hN3
 go_upto_region 3 with (fail)
 have ra:∀ k,k≠w.heap.size+2->(W3.setCell (Tab (w.heap.size+2) 0) (.int .i64 r.Gc)).heap[k]?=W3.heap[k]?:=fun k e=>bw _ _ _ _ e;have Q9:=aa ((ra _ Tcd).trans MX.o);have WC:=aa ((ra _ Tcd).trans QP.o);have WD:=aa (block_setCell (i:=0) (.int .i64 r.Gc) HR3.o);have eI:=aa (cJ.o.setCell (p:=⟨w.heap.size+2,0,none⟩) Tct (.int .i64 r.Gc));have hz4:(W3.setCell (Tab (w.heap.size+2) 0) (.int .i64 r.Gc)).heap.size=w.heap.size+3:=by simp [World.setCell,hz3]
 clear ra r3 rf c11 c11' t3 MX QP HR3 cJ;generalize hW4:World.setCell W3 _ _=W4 at *;clear hW4;have tL:=cz Q9.o;obtain ⟨t0,t1,t2,t3,t4,t5,t6,t7,t8,t9,t10,t11⟩:=IE tL;have t12:=tL 12 _ rfl;have t13:=tL 13 _ rfl;have t14:=tL 14 _ rfl;have t15:=tL 15 _ rfl;have t16:=tL 16 _ rfl;clear tL
 go_wp2_with fail
 clear t0 t1 t2 t3 t4 t5 t6 t7 t8 t9 t10 t11 t12 t13 t14 t15 t16;refine (GJ g a r _ W4).mono ?_;rintro e w5 ⟨rfl,rfl⟩;have hA5:=ae W4 (.cells (Tac g a r xs.length px cx) 120);have hN5:=b9 W4 (.cells (Tac g a r xs.length px cx) 120);have hz5:(W4.alloc (.cells (Tac g a r xs.length px cx) 120)).heap.size=w.heap.size+4:=by rw [cW,hz4]
 rw [hz4] at hN5;have eK:=aa (eI.o.trans (hA5.mono Tcd));have HT5:=aa ((hA5.block _ Tcd).trans Q9.o);have HL5:=aa ((hA5.block _ Tcd).trans WC.o);have HR5:=aa ((hA5.block _ Tcd).trans WD.o);have QS:=aa hN5;clear hA5 hN5 Q9 WC WD eI;rw [hz4];generalize hW5:World.alloc W4 _=W5 at *;clear hW5;go_wp2;refine Jc (ok:=ok) _ g a r px cx w.heap.size xs W5 hz5 hq ((ck.moves aO.moves).mv ⟨eK.o.size,fun b hb ho=>⟨⟨ho,hb⟩,eK.o.block b hb⟩⟩ B2.o) (by have:=HX.o.n8;omega) HX.o.len OI (MW.o.below eK.o) (fun x hx=>by have:=HX.o.x1 x hx;omega) HX.o.yl (fun y hy=>by have:=HX.o.yy y hy;omega) HX.o.sum QS.o HT5.o HL5.o HR5.o (aa ?_) (aa ?_)
 ·exact TaX
 ·exact TaX
end Go.Proofs.YtjdfihglehfelaaGreatDoor
