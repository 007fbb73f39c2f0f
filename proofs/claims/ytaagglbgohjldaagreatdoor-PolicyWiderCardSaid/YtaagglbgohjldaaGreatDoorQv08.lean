/- Lemmas: FlI, SpB, SpC. -/
import Derived.Test.YtaagglbgohjldaaGreatDoorQv07
import Derived.OrdersIn
import Derived.RangeFuncKeeps
set_option maxRecDepth 100000
set_option maxHeartbeats 32000000
set_option linter.all false
namespace Go.Proofs.YtaagglbgohjldaaGreatDoor
open Go.Proofs.Tryz
open Go.RowKit
section
variable {n:Nat}{P:Program}{ops:Array Oper}{Q:Exit->Act->World->Prop}{md:Region.Mode}{S:World->Prop}{m:Nat}{N:Nat->Bool}
variable {oi o:Oper}{v:Value}{i fuel:Nat}{a:Act}{K:Act->World->Prop}{w w':World}{listed:Array Bool}{f:FuncId}
theorem BV {j:Nat}{oj:Oper}(hj:ops[j]?=some oj)(hap:oi.apart ops oj=true)(Z7:∀ cs b,oi.op≠.select cs b)(hsj:∀ cs b,oj.op≠.select cs b)
  (hQ:∀ c a w,Q (.panic c) (a.put oi.dst v) w->Q (.panic c) a w) {K:Act->World->Prop} {a:Act} {w:World} (hy:YieldsIf P ops S oi v a) (h:wpOpIn Fence.wide n P ops Q j K (a.put oi.dst v) w) :
  wpOpIn Fence.wide n P ops Q j (fun a' w'=>YieldsIf P ops S oi v a'/\K (a'.put oi.dst v) w') a w:=by
 obtain ⟨h1,h2,h3⟩:=Oper.apart_spec hap;have keep:∀ (a:Act),YieldsIf P ops S oi v a->∀ u,YieldsIf P ops S oi v (a.put oj.dst u):=fun a hy u=>hy.of_same (execOp_put oi Z7 a oj.dst u h3) (wanted_put oi a oj.dst u h3);have next:∀ u w',K ((a.put oi.dst v).put oj.dst u) w'->YieldsIf P ops S oi v (a.put oj.dst u)/\K ((a.put oj.dst u).put oi.dst v) w':=fun u w' q=>⟨keep a hy u,by rw [<- Act.put_comm a v u h2];exact q⟩;unfold wpOpIn at *;simp only [hj] at *;rw [wanted_put oj a oi.dst v h1] at h
 by_cases hw:Region.wanted oj (yielded ops a.tmps)=true
 ·rw [aw hw] at h ⊢;refine ⟨fun _ _=>trivial,?_⟩;have h:=h.2;rw [tI,ub,execOp_put oj hsj a oi.dst v h1] at h;rw [tI,ub];generalize (execOp a.eval oj).run P w=r at *
  match r with
  | .ok (.value u) w'=>exact next u w' h
  | .ok .skip w'=>exact next undef w' h
  | .ok (.defer d) w' =>
   refine ⟨keep { a with defers:=d :: a.defers } (hy.of_same rfl rfl) _,?_⟩;rw [<- Act.put_comm _ v undef h2,<- Act.put_defers];exact h
  | .ok (.enter f args) w'=>exact ⟨h.1,CallsIn.mono h.2 fun e w'' he=>by
    cases e with
    | returned u=>exact next u w'' he
    | panicked c=>exact hQ _ _ _ he
    | outgrown=>exact he⟩
  | .ok (.row row args) w'=>exact ⟨h.1,RowsIn.mono h.2 fun u w'' he=>next u w'' he⟩
  | .ok (.round l f tmps assign body) w'=>exact ⟨h.1,RoundIn.mono h.2 fun e w'' he=>by
    cases e with
    | returned u=>exact next u w'' he
    | panicked c=>exact hQ _ _ _ he
    | outgrown=>exact he⟩
  | .halt (.panic u) w'=>exact hQ _ _ _ h
 rw [bh hw] at h ⊢;exact ⟨fun _ _=>trivial,next undef w h.2⟩
theorem qU (hi:ops[i]?=some o)(hy:YieldsIf P ops S o v a)(hS:S w)(h:K (a.put o.dst v) w):wpOpIn Fence.wide n P ops Q i K a w:=by
 unfold wpOpIn;simp only [hi];rcases hy with ⟨hw,hv⟩ | ⟨hw,rfl⟩
 ·rw [aw hw];refine ⟨fun _ _=>trivial,?_⟩;rw [tI,ub,hv w hS];exact h
 rw [bh (by rw [hw];exact Bool.false_ne_true)];exact ⟨fun _ _=>trivial,h⟩
def jm (n:Nat)(P:Program)(md:Region.Mode)(ops:Array Oper)(Q:Exit->Act->World->Prop)(S:World->Prop)(N:Nat->Bool):Nat->Array Bool->Act->World->Prop
 | 0,listed,a,w=>Region.ready md ops listed=[]/\Q .normal a w
 | fuel+1,listed,a,w=>(Region.ready md ops listed=[]->Q .normal a w)/\∀ i∈Region.ready md ops listed,wpOpIn Fence.wide n P ops Q i (fun a' w'=>(N i=true->S w')/\jm n P md ops Q S N fuel (listed.setIfInBounds i true) a' w') a w
theorem ng:∀ (fuel:Nat) (listed:Array Bool) (a:Act) (w:World),jm n P md ops Q S N fuel listed a w->wpAnyIn Fence.wide n P md ops Q fuel listed a w
 | 0,_,_,_,h=>h
 | fuel+1,_,_,_,h=>⟨h.1,fun i hi=>wpOpIn_mono (fun a' w' h'=>ng fuel _ a' w' h'.2) (h.2 i hi)⟩
theorem wz {id:Nat}(n:Nat)(S:World->Prop)(m:Nat)(ws:List Nat)(hm:P.follows .mixedOrders=true)(hS:S w.drew)
  (h:S w.drew->jm n P .any ops Q S (needs m ws) ops.size (Array.replicate ops.size false) a w.drew):(Code.region id ops true).wp P Q a w :=
 (wpIn_wide (n:=n)).1 (wpIn_region_any hm (ng _ _ _ _ (h hS)))
theorem vK (hi:ops[i]?=some oi)(mj:∀ (j:Nat) (o:Oper) cs b,ops[j]?=some o->o.op≠.select cs b)
  (hQ:∀ c a w,Q (.panic c) (a.put oi.dst v) w->Q (.panic c) a w) :
  ∀ (fuel:Nat) (listed:Array Bool) (a:Act) (w:World),lM md ops N listed i=true ->
   (∀ j oj,ops[j]?=some oj->j≠i->listed.getD j true=false->(∀ e∈oj.after,Region.binds md e=true->e.on≠i)->oi.apart ops oj=true) ->
   NH md ops listed->i∈Region.ready md ops listed->YieldsIf P ops S oi v a->S w ->
   jm n P md ops Q S N fuel (listed.setIfInBounds i true) (a.put oi.dst v) w->jm n P md ops Q S N (fuel+1) listed a w:=by
 intro fuel;induction fuel with
 | zero =>
  intro listed a w _ _ _ hr hy hS H;refine ⟨fun h=>Tc1,fun j hj=>?_⟩;by_cases nr:j=i
  ·subst nr;exact qU hi hy hS ⟨fun _=>hS,H⟩
  have:=ix hj nr;rw [H.1] at this;cases this
 | succ fuel ih =>
  intro listed a w hl oc hc hr hy hS H;have pN:=(mem_ready.1 hr).1;refine ⟨fun h=>Tc1,fun j hj=>?_⟩;by_cases nr:j=i
  ·subst nr;exact qU hi hy hS ⟨fun _=>hS,H⟩
  have UY:N j=true:=by
   cases hN:N j with
   | true=>rfl
   | false=>exact absurd hj (nW hc (Gs hl hN (mV hj) (mem_ready.1 hj).1) pN)
  have h1:=H.2 j (ix hj nr);obtain ⟨zj,oj,F0,hall⟩:=mem_ready.1 hj;have ao1:∀ e∈oj.after,Region.binds md e=true->e.on≠i:=fun e he hb heq=>by
   have h1:=hall e he hb;rw [heq,getD_both pN] at h1;cases h1
  have h2:=BV F0 (oc j oj F0 nr zj ao1) (fun cs b=>mj i oi cs b hi) (fun cs b=>mj j oj cs b F0) hQ hy h1;have pP:∀ k ok,ops[k]?=some ok->k≠i->(listed.setIfInBounds j true).getD k true=false ->
    (∀ e∈ok.after,Region.binds md e=true->e.on≠i)->oi.apart ops ok=true:=fun k ok hk hki pN hno=>by
   refine oc k ok hk hki ?_ hno;by_cases hjk:j=k
   ·subst hjk;exact zj
   rw [ly true hjk] at pN;exact pN
  refine wpOpIn_mono (fun a' w' h3=>⟨h3.2.1,ih (listed.setIfInBounds j true) a' w' (uJ hl) pP (hc.set hj) (ix hr (Ne.symm nr)) h3.1 (h3.2.1 UY) ?_⟩) h2;rw [FA _ _ nr];exact h3.2.2
theorem bQ {d:Tmp}(hi:ops[i]?=some oi)(hd:oi.dst=some d)
  (hb:(Region.noSelect ops&&Region.free md ops listed i&&(Region.ready md ops listed).contains i&&lM md ops N listed i&&BF md ops listed)=true)
  (hQ:∀ c a w,Q (.panic c) (a.put (some d) v) w->Q (.panic c) a w) (hy:YieldsIf P ops S oi v a) (hS:S w)
  (h:jm n P md ops Q S N fuel (listed.setIfInBounds i true) (a.put (some d) v) w):jm n P md ops Q S N (fuel+1) listed a w:=by
 simp only [eh] at hb;obtain ⟨⟨⟨⟨h1,h2⟩,h3⟩,h4⟩,h5⟩:=hb;rw [<- hd] at hQ h;exact vK hi (XS h1) hQ fuel listed a w h4 (Region.free_spec hi h2) (oK h5) Tdc hy hS h
theorem jh (hi:ops[i]?=some o)(hw:Region.wanted o (yielded ops a.tmps)=true)(hr:Region.ready md ops listed=[i])
  (h:∀ K:Act->World->Prop,Hid (∀ a' w',(N i=true->S w')->jm n P md ops Q S N fuel (listed.setIfInBounds i true) a' w'->K a' w')->o.wpIn Fence.wide n P a w K Q):jm n P md ops Q S N (fuel+1) listed a w:=by
 refine ⟨fun h0=>Tdi,fun j hj=>?_⟩;rw [hr] at hj;obtain rfl:j=i:=by simpa using hj
 unfold wpOpIn;simp only [hi,hw,ej];exact h _ (aa fun a' w' h1 h2=>⟨h1,h2⟩)
theorem xX (hr:Region.ready md ops listed=[])(h:Q .normal a w):jm n P md ops Q S N 0 listed a w:=⟨hr,h⟩
theorem xI {args:Array Value}(hr:(execOp a.eval o).run P w=.ok (.enter f args) w')
  (h:Calls P f args w' fun e w''=>match e with | .returned v=>K (a.put o.dst v) w'' | .panicked c=>Q (.panic c) a w'' | .outgrown=>LetsOut Q):o.wpIn Fence.wide n P a w K Q:=by
 refine ⟨fun _ _=>trivial,?_⟩;rw [tI,ub,hr];refine ⟨fun q=>by simp [Fence.wide] at q,callsIn_wide.2 (h.mono fun e w'' q=>?_)⟩;cases e <;> exact q
theorem xx {l:Nat}{tmps:Array Value}{assign body:Code}{n':Nat}(hr:(execOp a.eval o).run P w=.ok (.round l f tmps assign body) w')
  (h:RoundIn Fence.wide n' P l f tmps assign body w' fun e w''=>match e with | .returned v=>K (a.put o.dst v) w'' | .panicked c=>Q (.panic c) a w'' | .outgrown=>LetsOut Q):o.wpIn Fence.wide n P a w K Q:=by
 refine ⟨fun _ _=>trivial,?_⟩;rw [tI,ub,hr];refine ⟨fun q=>by simp [Fence.wide] at q,h.1,fun c cs _=>?_⟩;obtain ⟨e,w'',q,r⟩:=h.2 c cs (room_wide _);exact ⟨e,w'',by cases e <;> exact q,r⟩
theorem o6 (hr:(execOp a.eval o).run P w=.ok (.value v) w')(h:K (a.put o.dst v) w'):o.wpIn Fence.wide n P a w K Q:=by
 refine ⟨fun _ _=>trivial,?_⟩;rw [tI,ub,hr];exact h
end
variable {l n₀ k sz:Nat}{w A B:World}{α β:Type}{ok:Nat->Prop}
noncomputable def EQ (n:Nat):Code:=((Tryz.f161.body.bind (kX n)).getD .skip)
theorem Tdl {p:Prop}(h:p:=by go_simp):p:=h
theorem TcW {p:Prop}(h:p:=by simp [World.cell?,e2,hs]):p:=h
theorem Ter {p:Prop}(h:p:=by simp [World.cell?,e3,ha]):p:=h
theorem lW {Bv Bs Ba n':Nat}{name on log pool:ByteArray}{s st len kd ch dev mode dn:Int}{ap sp:Option Addr}{al ac sl sc:Nat}{R:Bool->World->Prop}
  (hv:w.cell? Bv=some (.string name)) (ha:w.heap[Ba]?=some (.cells (Tas on s) 53 (0,0)))
  (hs:w.heap[Bs]?=some (.cells (Tax st len kd al ap ac ch sl sp sc log pool dev mode dn) 114 (0,0))) (h0:0<=len) (h1:len<=1000000) (hal:al<=1000) (hBv:Bv<w.heap.size)
  (hY:∀ w',Below w.heap.size w w'->YieldAt Fence.wide n' prog l #[.agg #[.string name,.string on,.int .i64 s,.int .i64 (iB kd len al)]] w' fun e w2=>∃ go:Bool,e=.returned (.bool go)/\R go w2)
  (c1 c2 c3 c5 c7 c9 c10 c11 c12 c13 c14 c15 c16 c17 c18 c19 c20 c21 c22 c23 c24 c25 c26 c27 c28 c29 c30 c31 c32 c33 c34 c35 c36 c37 c38 c39 c40 c41 c42 c43 c44 c45 c46 c47 c48 c49 c50 c51 c52 c53 c54 c55 c56 c57 c58 c59 c60 c61 c62:Value) (K:Act->World->Prop) (Q:Exit->Act->World->Prop) (hQ:∀ c (a:Act) (d:Tmp) (v:Value) w,Q (.panic c) (a.put (some d) v) w->Q (.panic c) a w)
  (HK:Hid (∀ (go:Bool) (w':World) (u43 u44 u45 u46 u47 u48 u49 u50 u51 u52 u53 u54 u55 u56 u57 u58:Value),R go w'->K ⟨#[.func (.yield l) #[] #[],c1,c2,c3,.pointer (some Bv),c5,.pointer (some Bs),c7,.pointer (some Ba),c9,c10,c11,c12,c13,c14,c15,c16,c17,c18,c19,c20,c21,c22,c23,c24,c25,c26,c27,c28,c29,c30,c31,c32,c33,c34,c35,c36,c37,c38,c39,c40,c41,c42,u43,u44,u45,u46,u47,u48,u49,u50,u51,u52,u53,u54,u55,u56,u57,u58,.bool (!go),c60,c61,c62],[]⟩ w')) :
  Code.wp prog (EQ 10) (Exit.then K Q) ⟨#[.func (.yield l) #[] #[],c1,c2,c3,.pointer (some Bv),c5,.pointer (some Bs),c7,.pointer (some Ba),c9,c10,c11,c12,c13,c14,c15,c16,c17,c18,c19,c20,c21,c22,c23,c24,c25,c26,c27,c28,c29,c30,c31,c32,c33,c34,c35,c36,c37,c38,c39,c40,c41,c42,c43,c44,c45,c46,c47,c48,c49,c50,c51,c52,c53,c54,c55,c56,c57,c58,c59,c60,c61,c62],[]⟩ w:=by
 conv=>arg 2;whnf
 have hBs:=aq hs;have NU:=aq ha;have HS:Hid (∀ w':World,w'.heap[Bv]?=w.heap[Bv]?->w'.heap[Bs]?=w.heap[Bs]?->w'.heap[Ba]?=w.heap[Ba]?->w'.cell? Bv=some (.string name)/\w'.cell? Ba=some (.bool false)/\w'.cell? (Tac Ba 1)=some (.string on)/\w'.cell? (Tac Ba 2)=some (.int .i64 s)/\w'.cell? Bs=some (.int .i64 st)/\w'.cell? (Tac Bs 1)=some (.int .i64 len)/\w'.cell? (Tac Bs 2)=some (.int .i64 kd)/\w'.cell? (Tac Bs 3)=some (.slice ap al ac)/\w'.cell? (Tac Bs 4)=some (.int .i64 ch)/\w'.cell? (Tac Bs 5)=some (.slice sp sl sc)/\w'.cell? (Tac Bs 6)=some (.string log)/\w'.cell? (Tac Bs 7)=some (.string pool)/\w'.cell? (Tac Bs 8)=some (.int .i64 dev)/\w'.cell? (Tac Bs 9)=some (.int .i64 mode)/\w'.cell? (Tac Bs 10)=some (.int .i64 dn)):=aa fun w' e1 e2 e3=>⟨(cd (w:=w) e1).trans hv,Ter,Ter,Ter,TcW,TcW,TcW,TcW,TcW,TcW,TcW,TcW,TcW,TcW,TcW⟩;have HY:=aa hY;clear hY hv ha hs;refine wz 1 (fun w'=>w'.cell? Bv=some (.string name)/\w'.cell? Ba=some (.bool false)/\w'.cell? (Tac Ba 1)=some (.string on)/\w'.cell? (Tac Ba 2)=some (.int .i64 s)/\w'.cell? Bs=some (.int .i64 st)/\w'.cell? (Tac Bs 1)=some (.int .i64 len)/\w'.cell? (Tac Bs 2)=some (.int .i64 kd)/\w'.cell? (Tac Bs 3)=some (.slice ap al ac)/\w'.cell? (Tac Bs 4)=some (.int .i64 ch)/\w'.cell? (Tac Bs 5)=some (.slice sp sl sc)/\w'.cell? (Tac Bs 6)=some (.string log)/\w'.cell? (Tac Bs 7)=some (.string pool)/\w'.cell? (Tac Bs 8)=some (.int .i64 dev)/\w'.cell? (Tac Bs 9)=some (.int .i64 mode)/\w'.cell? (Tac Bs 10)=some (.int .i64 dn)) 14 [] TcE (HS.o w rfl rfl rfl) (fun hHeld=>?_)
 (refine bQ (i:=0) (v:=?_) rfl rfl TcE (fun _ _ _ h=>hQ _ _ _ _ _ h) (Or.inl ⟨TcI,?_⟩) hHeld ?_;rotate_left;(intro w hSw;(try dsimp only at hSw);go_simp;(try (with_reducible rfl)));(try simp only [aS]));(refine bQ (i:=1) (v:=?_) rfl rfl TcE (fun _ _ _ h=>hQ _ _ _ _ _ h) (Or.inl ⟨TcI,?_⟩) hHeld ?_;rotate_left;(intro w hSw;(try dsimp only at hSw);go_simp;(try (with_reducible rfl)));(try simp only [aS]));(refine bQ (i:=2) (v:=?_) rfl rfl TcE (fun _ _ _ h=>hQ _ _ _ _ _ h) (Or.inl ⟨TcI,?_⟩) hHeld ?_;rotate_left;(intro w hSw;(try dsimp only at hSw);go_simp;(try (with_reducible rfl)));(try simp only [aS]));(refine bQ (i:=3) (v:=?_) rfl rfl TcE (fun _ _ _ h=>hQ _ _ _ _ _ h) (Or.inl ⟨TcI,?_⟩) hHeld ?_;rotate_left;(intro w hSw;(try dsimp only at hSw);go_simp;(try (with_reducible rfl)));(try simp only [aS]));(refine bQ (i:=4) (v:=?_) rfl rfl TcE (fun _ _ _ h=>hQ _ _ _ _ _ h) (Or.inl ⟨TcI,?_⟩) hHeld ?_;rotate_left;(intro w hSw;(try dsimp only at hSw);go_simp;(try (with_reducible rfl)));(try simp only [aS]));(refine bQ (i:=5) (v:=?_) rfl rfl TcE (fun _ _ _ h=>hQ _ _ _ _ _ h) (Or.inl ⟨TcI,?_⟩) hHeld ?_;rotate_left;(intro w hSw;(try dsimp only at hSw);go_simp;(try (with_reducible rfl)));(try simp only [aS]));(refine bQ (i:=7) (v:=?_) rfl rfl TcE (fun _ _ _ h=>hQ _ _ _ _ _ h) (Or.inl ⟨TcI,?_⟩) hHeld ?_;rotate_left;(intro w hSw;(try dsimp only at hSw);go_simp;(try (with_reducible rfl)));(try simp only [aS]));(refine bQ (i:=9) (v:=?_) rfl rfl TcE (fun _ _ _ h=>hQ _ _ _ _ _ h) (Or.inl ⟨TcI,?_⟩) hHeld ?_;rotate_left;(intro w hSw;(try dsimp only at hSw);go_simp;(try (with_reducible rfl)));(try simp only [aS]));(refine bQ (i:=6) (v:=?_) rfl rfl TcE (fun _ _ _ h=>hQ _ _ _ _ _ h) (Or.inl ⟨TcI,?_⟩) hHeld ?_;rotate_left;(intro w hSw;(try dsimp only at hSw);go_simp;(try (with_reducible rfl)));(try simp only [aS]));(refine bQ (i:=8) (v:=?_) rfl rfl TcE (fun _ _ _ h=>hQ _ _ _ _ _ h) (Or.inl ⟨TcI,?_⟩) hHeld ?_;rotate_left;(intro w hSw;(try dsimp only at hSw);go_simp;(try (with_reducible rfl)));(try simp only [aS]));(refine bQ (i:=10) (v:=?_) rfl rfl TcE (fun _ _ _ h=>hQ _ _ _ _ _ h) (Or.inl ⟨TcI,?_⟩) hHeld ?_;rotate_left;(intro w hSw;(try dsimp only at hSw);go_simp;(try (with_reducible rfl)));(try simp only [aS]));(refine bQ (i:=11) (v:=?_) rfl rfl TcE (fun _ _ _ h=>hQ _ _ _ _ _ h) (Or.inl ⟨TcI,?_⟩) hHeld ?_;rotate_left;(intro w hSw;(try dsimp only at hSw);go_simp;(try (with_reducible rfl)));(try simp only [aS]))
 refine jh (i:=12) rfl TcI TcE (fun K1 hK1=>?_);refine xI (f:=118) (args:=#[.agg (Tax st len kd al ap ac ch sl sp sc log pool dev mode dn)]) (w':=w.drew) Tdl ?_;refine (ji st len kd ch dev mode dn ap sp al ac sl sc log pool w.drew h0 TcC TcC).mono ?_;rintro e w6 ⟨rfl,hb6⟩;dsimp only;have hb:Below w.heap.size w w6:=((bj _ w).drew).trans hb6;have hHeld2:=HS.o w6 (hb.block Bv hBv) (hb.block Bs hBs) (hb.block Ba NU);refine hK1.o _ _ (fun _=>hHeld2) ?_;clear hK1 K1 hHeld;simp only [Act.put,xT];have hHeld:=hHeld2;clear hHeld2;(refine bQ (i:=13) (v:=?_) rfl rfl TcE (fun _ _ _ h=>hQ _ _ _ _ _ h) (Or.inl ⟨TcI,?_⟩) hHeld ?_;rotate_left;(intro w hSw;(try dsimp only at hSw);go_simp;(try (with_reducible rfl)));(try simp only [Act.put]))
 obtain ⟨fn,tmps,assign,body,hy,hR⟩:=HY.o w6 hb;refine jh (i:=14) rfl TcI TcE (fun K1 hK1=>?_);refine xx (l:=l) (f:=fn) (tmps:=tmps) (assign:=assign) (body:=body) (w':=w6) Tdl (hR.mono ?_);rintro e w7 ⟨go,rfl,Z8⟩;dsimp only;refine hK1.o _ _ (fun q=>by simp [needs] at q) ?_;clear hK1 K1;simp only [Act.put];refine jh (i:=15) rfl TcI TcE (fun K1 hK1=>?_);refine o6 (v:=.bool (!go)) (w':=w7) Tdl ?_;refine hK1.o _ _ (fun q=>by simp [needs] at q) ?_;clear hK1 K1;simp only [Act.put];refine jh (i:=16) rfl TcI TcE (fun K1 hK1=>?_);refine o6 (v:=.bool (!go)) (w':=w7) Tdl ?_;refine hK1.o _ _ (fun q=>by simp [needs] at q) ?_;clear hK1 K1;simp only [Act.put];refine xX TcE ?_;exact HK.o go w7 _ _ _ _ _ _ _ _ _ _ _ _ _ _ _ _ Z8
structure gy where
 vol:ByteArray
 disk:ByteArray
 start:Int
 len:Int
def TaN (x0:gy):Tab #[.string x0.vol,.string x0.disk,.int .i64 x0.start,.int .i64 x0.len]:=⟨⟩
def FN (x:gy):Array Value:=#[.agg (TaN x)]
def aJ (name:ByteArray)(s:aB)(a:aR):gy:=⟨name,a.on,a.start,iB s.kind s.length s.Ga.length⟩
def fP (s:aB):Prop:=s.kind=1\/s.kind=2\/s.kind=8
instance (s:aB):Decidable (fP s):=inferInstanceAs (Decidable (_\/_\/_))
def aK (name:ByteArray)(s:aB):List gy:=if fP s then s.Ga.map (aJ name s) else []
def aW (v:ay):List gy:=v.Gf.flatMap (aK v.name)
def pieces (vs:List ay):List gy:=vs.flatMap aW
def qx (vs:List ay):Prop:=∀ v∈vs,v.Gf.length<=1000/\∀ s∈v.Gf,(0<=s.length/\s.length<=1000000)/\s.Ga.length<=1000/\(fP s->∀ a∈s.Ga,a.vol=false)
def FW (t:TypeId):Bool:=t == 68||t == 114
def KpT (n₀:Nat)(W W':World):Prop:=Below n₀ W W'/\∀ (k:Nat) (cs:Array Value) (t:TypeId) (z:Nat × Nat),W.heap[k]?=some (.cells cs t z)->FW t=true->W'.heap[k]?=W.heap[k]?
theorem KpT.trans {C:World}(h:KpT n₀ A B)(k:KpT n₀ B C):KpT n₀ A C:=⟨h.1.trans k.1,fun i cs t z e ht=>by
 have h1:=h.2 i cs t z e ht;exact (k.2 i cs t z (h1.trans e) ht).trans h1⟩
theorem KpT.of_below (h:Below A.heap.size A B)(hn:n₀<=A.heap.size):KpT n₀ A B:=⟨h.mono hn,fun i _cs _t _z e _=>h.block i (aq e)⟩
theorem cK (h:Below A.heap.size A B):A.grownBy B none:=⟨h.os,h.tape,h.output,h.size,fun k hk _=>h.block k hk⟩
theorem kz {F:Fence}{m:Nat}{P:Program}{args:Array Value}{W:World}{R R':Ending->World->Prop}(h:YieldAt F m P l args W R)(hR:∀ e w,R e w->R' e w):YieldAt F m P l args W R':=by
 obtain ⟨fn,tmps,assign,body,hy,h⟩:=h;exact ⟨fn,tmps,assign,body,hy,h.mono hR⟩
theorem rz {l:List α}{x:α}(h:l[k]?=some x)(f:α->List β):l.flatMap f=(l.take k).flatMap f++(f x++(l.drop (k+1)).flatMap f):=by
 have hk:=(List.getElem?_eq_some_iff.1 h).1;have hx:=(List.getElem?_eq_some_iff.1 h).2;conv=>lhs;rw [<- rk k l,xt,tB hk,lB,hx]
theorem gq {l:List α}{x:α}(h:l[k]?=some x)(f:α->List β):(l.take (k+1)).flatMap f=(l.take k).flatMap f++f x:=by
 rw [take_snoc' l k x h];simp
theorem Fa {l:List α}{x:α}(h:l[k]?=some x)(f:α->β):l.map f=(l.take k).map f++(f x :: (l.drop (k+1)).map f):=by
 have hk:=(List.getElem?_eq_some_iff.1 h).1;have hx:=(List.getElem?_eq_some_iff.1 h).2;conv=>lhs;rw [<- rk k l,gl,tB hk,iu,hx]
theorem oz {vs:List ay}{v:ay}{s:aB}{a:aR}{q p:Nat}(hv:vs[k]?=some v)(hs:v.Gf[q]?=some s)(ha:s.Ga[p]?=some a)(ho:fP s) :
  ∃ rest,pieces vs=(((vs.take k).flatMap aW++(v.Gf.take q).flatMap (aK v.name))++(s.Ga.take p).map (aJ v.name s))++(aJ v.name s a :: rest):=by
 refine ⟨(s.Ga.drop (p+1)).map (aJ v.name s)++((v.Gf.drop (q+1)).flatMap (aK v.name)++(vs.drop (k+1)).flatMap aW),?_⟩;unfold pieces;rw [rz hv,show aW v=v.Gf.flatMap (aK v.name) from rfl,rz hs,show aK v.name s=s.Ga.map (aJ v.name s) from aw ho,Fa ha];simp [cV]
theorem ck.elem {V:jx α}{p:Option Addr}{cap:Nat}{l:List α}(h:ck V sz ok w [.slice p l.length cap] l){x:α}(hk:l[k]?=some x) :
  ∃ b off u,p=some ⟨b,off,none⟩/\ok b/\b<w.heap.size/\u.length=sz/\V ok w u x/\∀ (j:Nat) (z:Value),u[j]?=some z->w.cell? ⟨b,off+k*sz+j,none⟩=some z:=by
 obtain ⟨p',cap',e,_,_,h3⟩:=h;obtain ⟨b,off,rfl,hb,ho,hc⟩:=h3 (by have:=(List.getElem?_eq_some_iff.1 hk).1;omega);obtain ⟨u,h1,h2,h3⟩:=hc k x hk;refine ⟨b,off,u,?_,ho,hb,h1,h2,h3⟩;injection e with e;injection e with e
theorem ck.cap {V:jx α}{v:Value}{l:List α}(h:ck V sz ok w [v] l):∃ p cap,v=.slice p l.length cap/\l.length<=cap/\cap<=9223372036854775807:=by
 obtain ⟨p,cap,e,h1,h2,_⟩:=h;exact ⟨p,cap,List.singleton_inj.1 e,h1,h2⟩
def Tay (x0:aR):Tab #[.bool false,.string x0.on,.int .i64 x0.start]:=⟨⟩
def Tae (x0:aB)(x1:Option Addr)(x2:Nat)(x3:Option Addr)(x4:Nat):Tab #[.int .i64 x0.start,.int .i64 x0.length,.int .i64 x0.kind,.slice x1 x0.Ga.length x2,.int .i64 x0.chunk,.slice x3 x0.stale.length x4,.string x0.log,.string x0.pool,.int .i64 x0.device,.int .i64 x0.mode,.int .i64 x0.done]:=⟨⟩
def Taf (x0:ay)(x1:Option Addr)(x2:Nat)(x3:Option Addr)(x4:Nat):Tab #[.string x0.name,.int .u64 x0.id,.bool x0.hidden,.bool x0.ro,.slice x1 x0.tags.length x2,.slice x3 x0.Gf.length x4]:=⟨⟩
theorem TaU {p:Prop}(h:p:=by
 clear zE;go_wp2;clear k2 k3;go_loopw [39] (fun m wr3=>∃ p:Nat,p<=s.Ga.length/\m=.int .i64 p/\J (((vs.take k).flatMap aW++(v.Gf.take q).flatMap (aK v.name))++(s.Ga.take p).map (aJ v.name s)) wr3/\Below n₀ W wr3/\W.heap.size<=wr3.heap.size/\wr3.heap[Bv]?=some (.cells (Taf v tp tc (some ⟨b2,off2,none⟩) gc) 68 (0,0))/\wr3.heap[Bs]?=some (.cells (Tae s ap ac sp sc) 114 (0,0))) (fun m _=>s.Ga.length - (intOf m).toNat)
 exact ⟨0,cg _,rfl,by simpa using TX.o,cm.o,NV.o,J0.o,lj.o⟩;obtain ⟨p,hp,rfl,hJs,hB,hz,vA,gO⟩:=hrel;by_cases hlt3:p<s.Ga.length
 ·obtain ⟨a,ha⟩:=aj s.Ga p hlt3;have B4:=HTS.o E4.o a (ct ha);obtain ⟨b3,off3,u3,rfl,B7,PV,pT,hva,mB⟩:=ya.o.elem ha;obtain rfl:u3=[.bool a.vol,.string a.on,.int .i64 a.start]:=hva;rw [B4] at mB;have cT:wr.heap[b3]?=W.heap[b3]?:=hB.block b3 B7;have q0:=(cd (w:=W) (a:=⟨b3,off3+p*3,none⟩) cT).trans (mB 0 _ rfl);have q1:=(cd (w:=W) (a:=⟨b3,off3+p*3+1,none⟩) cT).trans (mB 1 _ rfl);have q2:=(cd (w:=W) (a:=⟨b3,off3+p*3+2,none⟩) cT).trans (mB 2 _ rfl);have hb3:=ae wr (.cells (Tay a) 53);have yb:=aa (b9 wr (.cells (Tay a) 53));have pZ:=aa ((hb3.block Bv (aq vA)).trans vA);have nB:=aa ((hb3.block Bs (aq gO)).trans gO);have QU:=aa (HJ.o _ _ _ none hJs (cK hb3) (fun r e=>by cases e));have cJ:=aa (hB.trans (hb3.mono TcC));have Lp:=aa (cA hz hb3.size);obtain ⟨rest,od⟩:=oz HV.o B6.o ha E4.o;have CI:=aa od;clear od;have HA:=aa ha;clear ha;clear hJs hb3 vA gO mB cT pT B4;go_upto_region 10 with (fail);clear q0 q1 q2;generalize hW3:wr.alloc _=W3 at *;generalize Lr:wr.heap.size=Ba at *;clear hW3 hB hz Lr;refine lW (n':=n - 1) (name:=v.name) (on:=a.on) (s:=a.start) (R:=fun go w2=>(go=true/\J ((((vs.take k).flatMap aW++(v.Gf.take q).flatMap (aK v.name))++(s.Ga.take p).map (aJ v.name s))++[aJ v.name s a]) w2/\KpT n₀ W3 w2)\/(go=false/\Jx ((((vs.take k).flatMap aW++(v.Gf.take q).flatMap (aK v.name))++(s.Ga.take p).map (aJ v.name s))++[aJ v.name s a]) w2)) (by simp [World.cell?,pZ.o]) yb.o nB.o hl0 hl1 hal (aq pZ.o) ?_ _ _ _ _ _ _ _ _ _ _ _ _ _ _ _ _ _ _ _ _ _ _ _ _ _ _ _ _ _ _ _ _ _ _ _ _ _ _ _ _ _ _ _ _ _ _ _ _ _ _ _ _ _ _ _ _ _ _ _ _ _ (fun _ _ _ _ _ h=>h) (aa ?_)
  ·intro w' hb;refine kz (HY.o (((vs.take k).flatMap aW++(v.Gf.take q).flatMap (aK v.name))++(s.Ga.take p).map (aJ v.name s)) (aJ v.name s a) w' (HJ.o _ _ _ none QU.o (cK hb) (fun r e=>by cases e)) (by have e:=fj List.length CI.o;rw [cD,cS] at e;omega)) (fun e w2 q=>?_);rcases q with ⟨rfl,h1,h2⟩ | ⟨rfl,h1⟩
   ·exact ⟨true,rfl,.inl ⟨rfl,h1,(KpT.of_below hb (by have:=Lp.o;omega)).trans h2⟩⟩
   exact ⟨false,rfl,.inr ⟨rfl,h1⟩⟩
  intro go w5 u43 u44 u45 u46 u47 u48 u49 u50 u51 u52 u53 u54 u55 u56 u57 u58 hR;rcases hR with ⟨rfl,hJ5,hk5⟩ | ⟨rfl,ap9⟩
  ·have Ls:=aa hJ5;clear hJ5;have HK5:=aa hk5;clear hk5;go_wp2;go_roundw;exact ⟨p+1,TcC,TcG,by rw [take_snoc' _ _ _ HA.o,gl,<- cV];exact Ls.o,cJ.o.trans HK5.o.1,cA Lp.o HK5.o.1.size,(HK5.o.2 Bv _ _ _ pZ.o rfl).trans pZ.o,(HK5.o.2 Bs _ _ _ nB.o rfl).trans nB.o⟩;simp [intOf];omega
  have Ls:=aa ap9;clear ap9;go_wp2;refine eC (results_none rfl _ _ _) rfl ⟨⟨_,rfl⟩,.inr ⟨_,⟨rest,?_⟩,Ls.o⟩⟩;rw [CI.o,cV];rfl
 obtain rfl:p=s.Ga.length:=by omega
 rw [cI] at hJs;have OV:=aa hJs;clear hJs;have Qe:=aa vA;clear vA;have fl:=aa gO;clear gO;go_wp2;go_roundw;exact ⟨q+1,TcC,TcG,by rw [gq B6.o,show aK v.name s=s.Ga.map (aJ v.name s) from aw E4.o,<- cV];exact OV.o,hB,hz,Qe.o⟩;simp [intOf];omega):p:=h
theorem zh (n n₀ Bg:Nat)(w:World)(vp:Option Addr)(ao4:Nat)(vs:List ay)(hc:w.cell? (Tac Bg 7)=some (.slice vp vs.length ao4))(Ms:Bg<w.heap.size)(hn:n₀<=w.heap.size)
  (hr:ck aN 6 (fun b=>b<n₀) w [.slice vp vs.length ao4] vs) (ht:qx vs) (mb:vs.length<=1000) :
  SeqStopsK Fence.wide n prog 161 #[.pointer (some Bg)] FN (KpT n₀) (fun xs=>xs=pieces vs) (fun pre=>pre <+: pieces vs) (pieces vs).length w:=by
 intro l J Jx W hW hJ Z9 hY h0;refine callsIn_wide.2 ?_;show Calls prog 161 #[.func (.yield l) #[] #[],.pointer (some Bg)] W _;have hcW:W.cell? (Tac Bg 7)=some (.slice vp vs.length ao4):=(cd (w:=w) (hW.block Bg Ms)).trans hc;have HR:=aa ((ck.moves aN.moves).mv (ok':=fun b=>b<n₀) ⟨hW.size,fun b hb ho=>⟨ho,hW.block b hb⟩⟩ hr);have hnW:=cA hn hW.size;have HT:=aa ht;have HY:=aa hY;have HJ:=aa hJ;clear hc hr ht hY hJ Z9;go_enter func161,ntmps161;go_wp2
 go_loopw [12] (fun i wr=>∃ k:Nat,k<=vs.length/\i=.int .i64 k/\J ((vs.take k).flatMap aW) wr/\Below n₀ W wr/\W.heap.size<=wr.heap.size) (fun i _=>vs.length - (intOf i).toNat)
 exact ⟨0,cg _,rfl,Tdy,bj _ _,bk _⟩;obtain ⟨k,hk,rfl,hJs,hB,hz⟩:=hrel;by_cases hlt:k<vs.length
 ·obtain ⟨v,hv⟩:=aj vs k hlt;have Qd:=HT.o v (ct hv);have GF:=Qd.1;have Vc:=aa Qd.2;clear Qd;obtain ⟨b,off,u,rfl,gR,cX,ez,sA,hcv⟩:=HR.o.elem hv;obtain ⟨tv,gv,rfl,ew,hgr⟩:=sA;obtain ⟨tp,tc,rfl,_,_⟩:=ew.cap;obtain ⟨gp,gc,rfl,hg1,hg2⟩:=hgr.cap;have cT:wr.heap[b]?=W.heap[b]?:=hB.block b gR;have q0:=(cd (w:=W) (a:=⟨b,off+k*6,none⟩) cT).trans (hcv 0 _ rfl);have q1:=(cd (w:=W) (a:=⟨b,off+k*6+1,none⟩) cT).trans (hcv 1 _ rfl);have q2:=(cd (w:=W) (a:=⟨b,off+k*6+2,none⟩) cT).trans (hcv 2 _ rfl);have q3:=(cd (w:=W) (a:=⟨b,off+k*6+3,none⟩) cT).trans (hcv 3 _ rfl);have q4:=(cd (w:=W) (a:=⟨b,off+k*6+4,none⟩) cT).trans (hcv 4 _ rfl);have q5:=(cd (w:=W) (a:=⟨b,off+k*6+5,none⟩) cT).trans (hcv 5 _ rfl);have HV:=aa hv;clear hv;have Lm:=aa hgr;clear hgr;clear ew hcv ez cT;have hb1:=ae wr (.cells (Taf v tp tc gp gc) 68);have zv:=aa (b9 wr (.cells (Taf v tp tc gp gc) 68));have HJ1:=aa (HJ.o _ _ _ none hJs (cK hb1) (fun r e=>by cases e));have cU:=aa (hB.trans (hb1.mono TcC));have HZ1:=aa (cA hz hb1.size);clear hb1;clear hJs;go_upto_block 2 with (fail)
  clear q0 q1 q2 q3 q4 q5;generalize hW1:wr.alloc _=W1 at *;generalize Vd:wr.heap.size=Bv at *;clear hW1 hB hz Vd;go_wp2;go_loopw [19] (fun j wr2=>∃ q:Nat,q<=v.Gf.length/\j=.int .i64 q/\J ((vs.take k).flatMap aW++(v.Gf.take q).flatMap (aK v.name)) wr2/\Below n₀ W wr2/\W.heap.size<=wr2.heap.size/\wr2.heap[Bv]?=some (.cells (Taf v tp tc gp gc) 68 (0,0))) (fun j _=>v.Gf.length - (intOf j).toNat)
  exact ⟨0,cg _,rfl,by simpa using HJ1.o,cU.o,HZ1.o,zv.o⟩;obtain ⟨q,hq,rfl,hJs,hB,hz,vA⟩:=hrel;by_cases hlt2:q<v.Gf.length
  ·obtain ⟨s,hs⟩:=aj v.Gf q hlt2;have OP:=Vc.o s (ct hs);have hl0:=OP.1.1;have hl1:=OP.1.2;have hal:=OP.2.1;have HTS:=aa OP.2.2;clear OP;obtain ⟨b2,off2,u2,rfl,I0,C2,B5,eE,hcs⟩:=Lm.o.elem hs;obtain ⟨av,Oz,rfl,py,QT⟩:=eE;obtain ⟨ap,ac,rfl,ha1,ha2⟩:=py.cap;obtain ⟨sp,sc,rfl,_,_⟩:=QT.cap;have cT:wr.heap[b2]?=W.heap[b2]?:=hB.block b2 I0;have q0:=(cd (w:=W) (a:=⟨b2,off2+q*11,none⟩) cT).trans (hcs 0 _ rfl);have q1:=(cd (w:=W) (a:=⟨b2,off2+q*11+1,none⟩) cT).trans (hcs 1 _ rfl);have q2:=(cd (w:=W) (a:=⟨b2,off2+q*11+2,none⟩) cT).trans (hcs 2 _ rfl);have q3:=(cd (w:=W) (a:=⟨b2,off2+q*11+3,none⟩) cT).trans (hcs 3 _ rfl);have q4:=(cd (w:=W) (a:=⟨b2,off2+q*11+4,none⟩) cT).trans (hcs 4 _ rfl);have q5:=(cd (w:=W) (a:=⟨b2,off2+q*11+5,none⟩) cT).trans (hcs 5 _ rfl);have q6:=(cd (w:=W) (a:=⟨b2,off2+q*11+6,none⟩) cT).trans (hcs 6 _ rfl);have q7:=(cd (w:=W) (a:=⟨b2,off2+q*11+7,none⟩) cT).trans (hcs 7 _ rfl);have q8:=(cd (w:=W) (a:=⟨b2,off2+q*11+8,none⟩) cT).trans (hcs 8 _ rfl);have q9:=(cd (w:=W) (a:=⟨b2,off2+q*11+9,none⟩) cT).trans (hcs 9 _ rfl);have q10:=(cd (w:=W) (a:=⟨b2,off2+q*11+10,none⟩) cT).trans (hcs 10 _ rfl);have B6:=aa hs;clear hs;have ya:=aa py;clear py;clear QT hcs B5 cT;have hb2:=ae wr (.cells (Tae s ap ac sp sc) 114);have lj:=aa (b9 wr (.cells (Tae s ap ac sp sc) 114));have J0:=aa ((hb2.block Bv (aq vA)).trans vA);have TX:=aa (HJ.o _ _ _ none hJs (cK hb2) (fun r e=>by cases e));have cm:=aa (hB.trans (hb2.mono TcC));have NV:=aa (cA hz hb2.size);have k2:(wr.alloc (.cells (Tae s ap ac sp sc) 114)).cell? (Tac wr.heap.size 2)=some (.int .i64 s.kind):=aD rfl rfl;have k3:(wr.alloc (.cells (Tae s ap ac sp sc) 114)).cell? (Tac wr.heap.size 3)=some (.slice ap s.Ga.length ac):=aD rfl rfl;clear hJs hb2 vA;by_cases G0:fP s
   ·have OU:s.kind=1\/s.kind=2\/s.kind=8:=G0;have E4:=aa G0;clear G0;go_upto_region 6 with (fail);clear q0 q1 q2 q3 q4 q5 q6 q7 q8 q9 q10;generalize hW2:wr.alloc _=W2 at *;generalize ao5:wr.heap.size=Bs at *;clear hW2 hB hz ao5;rcases OU with zE | zE | zE
    ·have Lk:(s.kind != 1)=false:=by simp [zE]
     exact TaU
    ·have Lk:(s.kind != 1)=true:=by simp [zE]
     have QV:(s.kind != 2)=false:=by simp [zE]
     exact TaU
    have Lk:(s.kind != 1)=true:=by simp [zE]
    have QV:(s.kind != 2)=true:=by simp [zE]
    have Ve:(s.kind != 8)=false:=by simp [zE]
    exact TaU
   have n1:¬ s.kind=1:=fun e=>G0 (.inl e)
   have n2:¬ s.kind=2:=fun e=>G0 (.inr (.inl e));have n8:¬ s.kind=8:=fun e=>G0 (.inr (.inr e));have Lk:(s.kind != 1)=true:=by simpa using n1
   have QV:(s.kind != 2)=true:=by simpa using n2
   have Ve:(s.kind != 8)=true:=by simpa using n8
   clear n1 n2 n8;have E4:=aa G0;clear G0;go_upto_region 6 with (fail);clear q0 q1 q2 q3 q4 q5 q6 q7 q8 q9 q10;generalize hW2:wr.alloc _=W2 at *;generalize ao5:wr.heap.size=Bs at *;clear hW2 hB hz ao5;go_wp2;go_roundw;exact ⟨q+1,TcC,TcG,by rw [gq B6.o,show aK v.name s=[] from bh E4.o,eM];exact TX.o,cm.o,NV.o,J0.o⟩;simp [intOf];omega
  obtain rfl:q=v.Gf.length:=by omega
  rw [cI] at hJs;have OV:=aa hJs;clear hJs;have Qe:=aa vA;clear vA;go_wp2;go_roundw;exact ⟨k+1,TcC,TcG,by rw [gq HV.o];exact OV.o,hB,hz⟩;simp [intOf];omega
 obtain rfl:k=vs.length:=by omega
 rw [cI] at hJs;go_wp2;go_end0
 exact ⟨⟨_,rfl⟩,.inl ⟨_,rfl,hJs⟩⟩
end Go.Proofs.YtaagglbgohjldaaGreatDoor
