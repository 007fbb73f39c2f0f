/- Lemmas: Flo. -/
import Derived.Test.YtaagglbgohjldaaGreatDoorQv01
import Derived.OrdersHeld
set_option maxRecDepth 100000
set_option maxHeartbeats 32000000
set_option linter.all false
namespace Go.Proofs.YtaagglbgohjldaaGreatDoor
open Go.RowKit
section
variable {P:Program}{ops:Array Oper}{Q:Exit->Act->World->Prop}{md:Region.Mode}{S:World->Prop}{m:Nat}{N:Nat->Bool}
variable {a a0:Act}{w:World}{listed:Array Bool}{j i t fuel:Nat}{oi o:Oper}{v:Value}{d:Tmp}{ws:List Nat}{l:List Oper}{F:Nat->(Nat->Value)->World->Prop}{C:(Nat->Bool)->World->Prop}{Ev:Nat->World->World->Prop}{idx:List (Nat × Nat)}{p:Nat × Nat}{ag:Nat->List Nat}
def bG (P:Program)(md:Region.Mode)(ops:Array Oper)(Q:Exit->Act->World->Prop)(S:World->Prop)(N:Nat->Bool):Nat->Array Bool->Act->World->Prop
 | 0,listed,a,w=>Region.ready md ops listed=[]/\Q .normal a w
 | fuel+1,listed,a,w =>
  (Region.ready md ops listed=[]->Q .normal a w) /\
  ∀ i∈Region.ready md ops listed,wpOp P ops Q i (fun a' w'=>(N i=true->S w')/\bG P md ops Q S N fuel (listed.setIfInBounds i true) a' w') a w
theorem mF:∀ (fuel:Nat) (listed:Array Bool) (a:Act) (w:World),bG P md ops Q S N fuel listed a w->wpAny P md ops Q fuel listed a w
 | 0,_,_,_,h=>h
 | fuel+1,_,_,_,h=>⟨h.1,fun i hi=>wpOp_mono (fun a' w' h'=>mF fuel _ a' w' h'.2) (h.2 i hi)⟩
def needs (m:Nat)(ws:List Nat):Nat->Bool:=fun i=>decide (i<m)&&!ws.contains i
theorem aL {id:Nat}(S:World->Prop)(m:Nat)(ws:List Nat)(hm:P.follows .mixedOrders=true)(hS:S w.drew)
  (h:S w.drew->bG P .any ops Q S (needs m ws) ops.size (Array.replicate ops.size false) a w.drew):(Code.region id ops true).wp P Q a w :=
 wp_region_any hm (mF _ _ _ _ (h hS))
def NH (md:Region.Mode)(ops:Array Oper)(listed:Array Bool):Prop:=∀ (j:Nat) (oj:Oper),ops[j]?=some oj->listed.getD j false=true->∀ e∈oj.after,Region.binds md e=true->listed.getD e.on false=true
def BF (md:Region.Mode)(ops:Array Oper)(listed:Array Bool):Bool:=(List.range ops.size).all fun j=>match ops[j]? with
 | some oj=>!listed.getD j false||oj.after.all fun e=>!Region.binds md e||listed.getD e.on false
 | none=>true
theorem oK (h:BF md ops listed=true):NH md ops listed:=fun j oj hj hl e he hb=>by
 have:=List.all_eq_true.1 h j (List.mem_range.2 (Array.getElem?_eq_some_iff.1 hj).1);simp only [hj,hl,Bool.not_true,nj] at this;have:=Array.all_eq_true_iff_forall_mem.1 this e he;simpa [hb] using this
theorem NH.set (h:NH md ops listed)(hj:j∈Region.ready md ops listed):NH md ops (listed.setIfInBounds j true):=fun k ok hk hl e he hb=>by
 by_cases hjk:j=k
 ·subst hjk;obtain ⟨_,o,ho,hall⟩:=mem_ready.1 hj;rw [hk] at ho;injection ho with ho;subst ho;exact getD_set_true (hall e he hb)
 rw [ly false hjk] at hl;exact getD_set_true (h k ok hk hl e he hb)
def ky (md:Region.Mode)(ops:Array Oper):Nat->Nat->Nat->Bool
 | 0,_,_=>false
 | f+1,t,i=>Region.waitsFor md ops t i||(match ops[t]? with
  | some o=>o.after.any fun e=>Region.binds md e&&ky md ops f e.on i
  | none=>false)
theorem mP (hc:NH md ops listed):∀ (f t:Nat) (o:Oper),ops[t]?=some o->(∀ e∈o.after,Region.binds md e=true->listed.getD e.on false=true)->ky md ops f t i=true->listed.getD i false=true
 | 0,_,_,_,_,h=>by cases h
 | f+1,t,o,ho,hall,h=>by
  simp only [ky,ho,tG] at h;rcases h with h | h
  ·obtain ⟨ot,Mo,e,he,hb,Le⟩:=A5 h;rw [ho] at Mo;injection Mo with Mo;subst Mo;rw [<- Le];exact hall e he hb
  obtain ⟨k,hk,h2⟩:=Array.any_eq_true.1 h;simp only [eh] at h2;have hl:=hall _ (Array.getElem_mem hk) h2.1;cases UX:ops[(o.after[k]).on]? with
  | none =>
   cases f with
   | zero=>simp [ky] at h2
   | succ f=>simp [ky,UX,Region.waitsFor] at h2
  | some oe=>exact mP hc f _ oe UX (hc _ oe UX hl) h2.2
theorem nW {f:Nat}(hc:NH md ops listed)(hw:ky md ops f t i=true)(hi:listed.getD i true=false):t ∉ Region.ready md ops listed:=fun ht=>by
 obtain ⟨_,o,ho,hall⟩:=mem_ready.1 ht;have h1:=mP hc f t o ho hall hw;rw [getD_both hi] at h1;cases h1
def lM (md:Region.Mode)(ops:Array Oper)(N:Nat->Bool)(listed:Array Bool)(i:Nat):Bool:=(List.range ops.size).all fun t=>N t||listed.getD t true||ky md ops ops.size t i
theorem Gs (h:lM md ops N listed i=true)(ht:N t=false)(hs:t<ops.size)(hu:listed.getD t true=false):ky md ops ops.size t i=true:=by
 have:=List.all_eq_true.1 h t (List.mem_range.2 hs);simp only [ht,hu,nj] at this;exact this
theorem uJ (h:lM md ops N listed i=true):lM md ops N (listed.setIfInBounds j true) i=true:=by
 refine List.all_eq_true.2 fun t ht=>?_;have:=List.all_eq_true.1 h t ht;simp only [tG] at this ⊢;rcases this with (q | q) | q
 ·exact .inl (.inl q)
 ·refine .inl (.inr ?_);by_cases e:j=t
  ·subst e;by_cases hs:j<listed.size
   ·simp [hs]
   simp []
  rw [ly true e];exact q
 exact .inr q
theorem mV (h:j∈Region.ready md ops listed):j<ops.size:=by
 obtain ⟨_,o,ho,_⟩:=mem_ready.1 h;exact (Array.getElem?_eq_some_iff.1 ho).1
theorem uN (hi:ops[i]?=some oi)(mj:∀ (j:Nat) (o:Oper) cs b,ops[j]?=some o->o.op≠.select cs b)
  (hQ:∀ c a w,Q (.panic c) (a.put oi.dst v) w->Q (.panic c) a w) :
  ∀ (fuel:Nat) (listed:Array Bool) (a:Act) (w:World),lM md ops N listed i=true ->
   (∀ j oj,ops[j]?=some oj->j≠i->listed.getD j true=false->(∀ e∈oj.after,Region.binds md e=true->e.on≠i)->oi.apart ops oj=true) ->
   NH md ops listed->i∈Region.ready md ops listed->YieldsIf P ops S oi v a->S w ->
   bG P md ops Q S N fuel (listed.setIfInBounds i true) (a.put oi.dst v) w->bG P md ops Q S N (fuel+1) listed a w:=by
 intro fuel;induction fuel with
 | zero =>
  intro listed a w _ _ _ hr hy hS H;refine ⟨fun h=>Tc1,fun j hj=>?_⟩;by_cases nr:j=i
  ·subst nr;exact hy.wpOp hi hS ⟨fun _=>hS,H⟩
  have:=ix hj nr;rw [H.1] at this;cases this
 | succ fuel ih =>
  intro listed a w hl oc hc hr hy hS H;have pN:=(mem_ready.1 hr).1;refine ⟨fun h=>Tc1,fun j hj=>?_⟩;by_cases nr:j=i
  ·subst nr;exact hy.wpOp hi hS ⟨fun _=>hS,H⟩
  have UY:N j=true:=by
   cases hN:N j with
   | true=>rfl
   | false=>exact absurd hj (nW hc (Gs hl hN (mV hj) (mem_ready.1 hj).1) pN)
  have h1:=H.2 j (ix hj nr);obtain ⟨zj,oj,F0,hall⟩:=mem_ready.1 hj;have ao1:∀ e∈oj.after,Region.binds md e=true->e.on≠i:=fun e he hb heq=>by
   have h1:=hall e he hb;rw [heq,getD_both pN] at h1;cases h1
  have h2:=wpOp_putIf F0 (oc j oj F0 nr zj ao1) (fun cs b=>mj i oi cs b hi) (fun cs b=>mj j oj cs b F0) hQ hy h1;have pP:∀ k ok,ops[k]?=some ok->k≠i->(listed.setIfInBounds j true).getD k true=false ->
    (∀ e∈ok.after,Region.binds md e=true->e.on≠i)->oi.apart ops ok=true:=fun k ok hk hki pN hno=>by
   refine oc k ok hk hki ?_ hno;by_cases hjk:j=k
   ·subst hjk;exact zj
   rw [ly true hjk] at pN;exact pN
  refine wpOp_mono (fun a' w' h3=>⟨h3.2.1,ih (listed.setIfInBounds j true) a' w' (uJ hl) pP (hc.set hj) (ix hr (Ne.symm nr)) h3.1 (h3.2.1 UY) ?_⟩) h2;rw [FA _ _ nr];exact h3.2.2
theorem Tdc {p:Prop}(h:p:=by simpa using h3):p:=h
theorem o7 (hi:ops[i]?=some oi)(hd:oi.dst=some d)
  (hb:(Region.noSelect ops&&Region.free md ops listed i&&(Region.ready md ops listed).contains i&&lM md ops N listed i&&BF md ops listed)=true)
  (hQ:∀ c a w,Q (.panic c) (a.put (some d) v) w->Q (.panic c) a w) (hy:YieldsIf P ops S oi v a) (hS:S w)
  (h:bG P md ops Q S N fuel (listed.setIfInBounds i true) (a.put (some d) v) w):bG P md ops Q S N (fuel+1) listed a w:=by
 simp only [eh] at hb;obtain ⟨⟨⟨⟨h1,h2⟩,h3⟩,h4⟩,h5⟩:=hb;rw [<- hd] at hQ h;exact uN hi (XS h1) hQ fuel listed a w h4 (Region.free_spec hi h2) (oK h5) Tdc hy hS h
theorem sG (hi:ops[i]?=some oi)(mj:∀ (j:Nat) (o:Oper) cs b,ops[j]?=some o->o.op≠.select cs b)
  (hN:N i=false) (hQ:∀ c a w,Q (.panic c) (a.put oi.dst v) w->Q (.panic c) a w) :
  ∀ (fuel:Nat) (listed:Array Bool) (a:Act) (w:World),
   (∀ j oj,ops[j]?=some oj->j≠i->listed.getD j true=false->(∀ e∈oj.after,Region.binds md e=true->e.on≠i)->oi.apart ops oj=true) ->
   i∈Region.ready md ops listed->YieldsIf P ops (fun _=>True) oi v a ->
   bG P md ops Q S N fuel (listed.setIfInBounds i true) (a.put oi.dst v) w->bG P md ops Q S N (fuel+1) listed a w:=by
 have hv:∀ w:World,N i=true->S w:=fun w h=>by rw [hN] at h;cases h
 intro fuel;induction fuel with
 | zero =>
  intro listed a w _ hr hy H;refine ⟨fun h=>Tc1,fun j hj=>?_⟩;by_cases nr:j=i
  ·subst nr;exact hy.wpOp hi trivial ⟨hv _,H⟩
  have:=ix hj nr;rw [H.1] at this;cases this
 | succ fuel ih =>
  intro listed a w oc hr hy H;have pN:=(mem_ready.1 hr).1;refine ⟨fun h=>Tc1,fun j hj=>?_⟩;by_cases nr:j=i
  ·subst nr;exact hy.wpOp hi trivial ⟨hv _,H⟩
  have h1:=H.2 j (ix hj nr);obtain ⟨zj,oj,F0,hall⟩:=mem_ready.1 hj;have ao1:∀ e∈oj.after,Region.binds md e=true->e.on≠i:=fun e he hb heq=>by
   have h1:=hall e he hb;rw [heq,getD_both pN] at h1;cases h1
  have h2:=wpOp_putIf F0 (oc j oj F0 nr zj ao1) (fun cs b=>mj i oi cs b hi) (fun cs b=>mj j oj cs b F0) hQ hy h1;have pP:∀ k ok,ops[k]?=some ok->k≠i->(listed.setIfInBounds j true).getD k true=false ->
    (∀ e∈ok.after,Region.binds md e=true->e.on≠i)->oi.apart ops ok=true:=fun k ok hk hki pN hno=>by
   refine oc k ok hk hki ?_ hno;by_cases hjk:j=k
   ·subst hjk;exact zj
   rw [ly true hjk] at pN;exact pN
  refine wpOp_mono (fun a' w' h3=>⟨h3.2.1,ih (listed.setIfInBounds j true) a' w' pP (ix hr (Ne.symm nr)) h3.1 ?_⟩) h2;rw [FA _ _ nr];exact h3.2.2
theorem nz (hi:ops[i]?=some oi)(hd:oi.dst=some d)
  (hb:(Region.noSelect ops&&Region.free md ops listed i&&(Region.ready md ops listed).contains i&&!N i)=true)
  (hQ:∀ c a w,Q (.panic c) (a.put (some d) v) w->Q (.panic c) a w) (hy:YieldsIf P ops (fun _=>True) oi v a)
  (h:bG P md ops Q S N fuel (listed.setIfInBounds i true) (a.put (some d) v) w):bG P md ops Q S N (fuel+1) listed a w:=by
 simp only [eh,tz] at hb;obtain ⟨⟨⟨h1,h2⟩,h3⟩,h4⟩:=hb;rw [<- hd] at hQ h;exact sG hi (XS h1) h4 hQ fuel listed a w (Region.free_spec hi h2) Tdc hy h
theorem gM:∀ (l:List Oper) (k:Nat) (listed:Array Bool) (a:Act) (w:World),(∀ t,k<=t->N t=false)->(∀ j,l[j]?=ops[k+j]?) ->
  Region.seqB md ops l.length k listed=true->wpList P ops Q l a w->bG P md ops Q S N l.length listed a w
 | [],_,_,_,_,_,_,hB,h=>⟨by simpa [Region.seqB] using hB,h⟩
 | o :: l,k,listed,a,w,hm,hl,hB,h=>by
  have h0:ops[k]?=some o:=by simpa using (hl 0).symm
  simp only [cS,Region.seqB,eh,fk] at hB;refine ⟨fun h1=>(by rw [hB.1] at h1;cases h1),fun i hi=>?_⟩;rw [hB.1] at hi;have hik:i=k:=by simpa using hi
  subst hik;have hw:wpOp P ops Q i (wpList P ops Q l) a w:=by unfold wpOp;simp only [h0];exact h
  exact wpOp_mono (fun a' w' h'=>⟨fun h=>(by rw [hm i (bk _)] at h;cases h),gM l (i+1) _ a' w' (fun t ht=>hm t TcC) (fun j=>by have:=hl (j+1);simpa [Nat.add_assoc,Nat.add_comm 1 j] using this) hB.2 h'⟩) hw
theorem Tb8 {p:Prop}(h:p:=by
 unfold wpOp;simp only [hi,hw,ej];exact .inl (h _ (aa fun a' w' h1 h2=>⟨fun _=>h1,h2⟩))):p:=h
theorem Tdi {p:Prop}(h:p:=by rw [hr] at h0;cases h0):p:=h
theorem au (hi:ops[i]?=some o)(hg:o.guard=none)(hr:Region.ready md ops listed=[i])
  (h:∀ K:Act->World->Prop,Hid (∀ a' w',S w'->bG P md ops Q S N fuel (listed.setIfInBounds i true) a' w'->K a' w')->o.wp P a w K Q):bG P md ops Q S N (fuel+1) listed a w:=by
 refine ⟨fun h0=>Tdi,fun j hj=>?_⟩;rw [hr] at hj;obtain rfl:j=i:=by simpa using hj
 have hw:Region.wanted o (yielded ops a.tmps)=true:=by simp [Region.wanted,hg]
 exact Tb8
theorem qJ :∀ t,m<=t->needs m ws t=false:=fun t ht=>by simp [needs];omega
theorem aP (hB:Region.seqB md l.toArray (l.toArray.size - m) m listed=true)(hf:fuel=(l.drop m).length)(h:wpList P l.toArray Q (l.drop m) a w):bG P md l.toArray Q S (needs m ws) fuel listed a w:=by
 rw [hf];exact gM (l.drop m) m listed a w qJ (fun j=>by simp [pk]) (by simpa using hB) h
def over (a:Act)(js:List (Nat × Nat))(vs:Nat->Value):Act:=js.foldl (fun a p=>a.put (some p.2) (vs p.1)) a
theorem dW (a:Act)(p:Nat × Nat)(js:List (Nat × Nat))(vs:Nat->Value):over a (p :: js) vs=over (a.put (some p.2) (vs p.1)) js vs:=rfl
theorem Cn (js:List (Nat × Nat))(vs:Nat->Value)(d:Nat)(v:Value):∀ a:Act,(∀ p∈js,p.2≠d)->over (a.put (some d) v) js vs=(over a js vs).put (some d) v:=by
 induction js with
 | nil=>intro a _;rfl
 | cons p js ih =>
  intro a h;rw [dW,dW,<- ih _ (fun q hq=>h q (kn _ hq)),Act.put_comm a v (vs p.1) (fun e he=>by
   injection he with he;subst he;intro hc;injection hc with hc;exact h p (cG ..) hc)]
theorem zx {vs us:Nat->Value}(js:List (Nat × Nat)):∀ a:Act,(∀ p∈js,vs p.1=us p.1)->over a js vs=over a js us:=by
 induction js with
 | nil=>intro a _;rfl
 | cons p js ih =>
  intro a h;rw [dW,dW,h p (cG ..)];exact ih _ fun q hq=>h q (kn _ hq)
theorem xm (js:List (Nat × Nat))(vs:Nat->Value):∀ a:Act,over a js vs={ a with tmps:=(over a js vs).tmps }:=by
 induction js with
 | nil=>intro a;rfl
 | cons p js ih =>
  intro a;rw [dW,ih];rfl
theorem mE (js:List (Nat × Nat))(vs:Nat->Value)(t:Nat):∀ a:Act,(∀ p∈js,p.2≠t)->(over a js vs).eval (.tmp t)=a.eval (.tmp t):=by
 induction js with
 | nil=>intro a _;rfl
 | cons p js ih =>
  intro a h;rw [dW,ih _ fun q hq=>h q (kn _ hq)];exact Act.eval_put fun d hd he=>by
   injection hd with hd;injection he with he;exact h p (cG ..) (hd.trans he.symm)
theorem zN (js:List (Nat × Nat))(vs:Nat->Value)(p:Nat × Nat):∀ a:Act,(js.map (·.2)).Nodup->p∈js->(over a js vs).eval (.tmp p.2)=(a.put (some p.2) (vs p.1)).eval (.tmp p.2):=by
 induction js with
 | nil=>intro a _ h;cases h
 | cons q js ih =>
  intro a hn h;rw [iu,List.nodup_cons] at hn;rw [dW];rcases List.mem_cons.1 h with rfl | h1
  ·exact mE js vs p.2 _ fun r hr e=>hn.1 (List.mem_map.2 ⟨r,hr,e⟩)
  have hne:q.2≠p.2:=fun e=>hn.1 (List.mem_map.2 ⟨p,h1,e.symm⟩)
  rw [ih _ hn.2 h1,Act.put_comm a (vs q.1) (vs p.1) (fun d hd hc=>by
   injection hd with hd;injection hc with hc;exact hne (hd.trans hc.symm))]
  exact Act.eval_put fun d hd he=>by
   injection hd with hd;injection he with he;exact hne (hd.trans he.symm)
theorem TdC {p:Prop}(h:p:=by simp [hq]):p:=h
theorem xc (vs:Nat->Value)(p:Nat × Nat)(v:Value)(f:Nat->Bool)(hf:f p.1=false):∀ (js:List (Nat × Nat)) (a:Act),(js.map (·.2)).Nodup->(js.map (·.1)).Nodup->p∈js ->
  over a (js.filter fun q=>f q.1||q.1 == p.1) (fun k=>if k=p.1 then v else vs k)=(over a (js.filter fun q=>f q.1) vs).put (some p.2) v:=by
 intro js;induction js with
 | nil=>intro a _ _ h;cases h
 | cons q js ih =>
  intro a hn hk h;rw [iu,List.nodup_cons] at hn hk;rcases List.mem_cons.1 h with rfl | h1
  ·have e1:js.filter (fun q=>f q.1||q.1 == p.1)=js.filter (fun q=>f q.1):=A0 fun r hr=>by
    have:r.1≠p.1:=fun e=>hk.1 (List.mem_map.2 ⟨r,hr,e⟩);simp [this]
   rw [E1 TcD,ae7 (by simp [hf]),dW,e1,Cn _ _ _ _ _ (fun r hr e=>hn.1 (List.mem_map.2 ⟨r,(List.mem_filter.1 hr).1,e⟩))];simp only [ej];rw [zx (us:=vs) _ _ fun r hr=>bh fun e=>hk.1 (List.mem_map.2 ⟨r,(List.mem_filter.1 hr).1,e⟩)]
  have Qa:q.1≠p.1:=fun e=>hk.1 (List.mem_map.2 ⟨p,h1,e.symm⟩)
  by_cases hq:f q.1=true
  ·rw [E1 TdC,E1 (p:=fun (q:Nat × Nat)=>f q.1) hq,dW,dW,bh Qa];exact ih _ hn.2 hk.2 h1
  rw [ae7 (by simp [hq,Qa]),ae7 (p:=fun (q:Nat × Nat)=>f q.1) hq];exact ih _ hn.2 hk.2 h1
def mI (ops:Array Oper)(i:Nat)(p:Nat × Nat):Bool:=match ops[i]? with
 | some o=>(o.looksAt ops).contains p.2
 | none=>false
theorem uo (js:List (Nat × Nat))(vs:Nat->Value):∀ a:Act,(over a js vs).tmps.size=a.tmps.size:=by
 induction js with
 | nil=>intro a;rfl
 | cons p js ih =>
  intro a;rw [dW,ih];simp [Act.put]
theorem Ck {b:Act}{G:Value->World->Prop}(he:execOp a.eval o=execOp b.eval o)(hsz:a.tmps.size=b.tmps.size)(hQ:∀ c w,Q (.panic c) b w->Q (.panic c) a w)
  (h:o.wp P b w (fun a' w'=>∃ v,a'=b.put o.dst v/\G v w') Q):o.wp P a w (fun a' w'=>∃ v,a'=a.put o.dst v/\G v w') Q:=by
 have inj:∀ (u:Value) (w:World),(∃ v,b.put o.dst u=b.put o.dst v/\G v w)->∃ x,a.put o.dst u=a.put o.dst x/\G x w:=fun u w ⟨v,e,g⟩=>by
  refine ⟨v,?_,g⟩;cases hd:o.dst with
  | none=>rfl
  | some d =>
   rw [hd] at e;simp only [Act.put,Act.mk.injEq,and_true] at e ⊢;by_cases hlt:d<b.tmps.size
   ·have:=fj (fun t=>t[d]?) e;simp [hlt] at this;rw [this]
   rw [Array.setIfInBounds_eq_of_size_le (by rw [hsz];exact Nat.le_of_not_lt hlt),Array.setIfInBounds_eq_of_size_le (by rw [hsz];exact Nat.le_of_not_lt hlt)]
 unfold Oper.wp at *;rw [he];generalize (execOp b.eval o).run P w=r at *;cases r with
 | ok n w' =>
  cases n <;> simp only [Oper.upon] at h ⊢
  case value u=>exact inj u w' h
  case skip=>exact inj undef w' h
  case defer d =>
   obtain ⟨v,e,_⟩:=h;have:=fj Act.defers e;exfalso
   cases hd:o.dst <;> rw [hd] at this <;> simp [Act.put] at this
  case enter f args =>
   refine Calls.mono h fun e w'' he=>?_;cases e with
   | returned u=>exact inj u w'' he
   | panicked c=>exact hQ _ _ he
   | outgrown=>exact he
  case row row args=>exact Rows.mono h fun u w'' he=>inj u w'' he
 | halt x w' =>
  cases x <;> simp only [Oper.upon] at h ⊢
  case panic u=>exact hQ _ _ h
def zF (md:Region.Mode)(ops:Array Oper)(m:Nat)(idx:List (Nat × Nat))(ag:Nat->List Nat)(listed:Array Bool):Bool :=
 Region.noSelect ops&&decide (listed.size=ops.size)&&decide (m<=ops.size) &&
 idx.all (fun p=>decide (p.1<m)&&!listed.getD p.1 true&&(match ops[p.1]? with
  | some o=>o.guard.isNone&&o.dst == some p.2
  | none=>false)) &&
 decide (idx.map (·.1)).Nodup&&decide (idx.map (·.2)).Nodup &&
 (List.range ops.size).all (fun t=>if t<m then listed.getD t false||idx.any (fun p=>p.1 == t) else !listed.getD t true) &&
 idx.all (fun p=>idx.all fun q=>!mI ops p.1 q||Region.waitsFor md ops p.1 q.1) &&
 idx.all (fun p=>(ag p.1).all fun k=>k == p.1||idx.any (fun q=>q.1 == k&&mI ops p.1 q)) &&
 idx.all (fun p=>lM md ops (fun t=>decide (t<m)) listed p.1)&&BF md ops listed &&
 (List.range ops.size).all (fun t=>match ops[t]? with
  | some o=>o.after.all fun e=>!Region.binds md e||decide (e.on<t)
  | none=>true) &&
 Region.seqB md ops (ops.size - m) m (Array.ofFn (n:=ops.size) fun t=>decide (t.1<m))
def kA (P:Program)(ops:Array Oper)(Q:Exit->Act->World->Prop)(F:Nat->(Nat->Value)->World->Prop)(C:(Nat->Bool)->World->Prop)(Ev:Nat->World->World->Prop)(a0:Act)(idx:List (Nat × Nat)):List (Nat × Nat)->Prop
 | []=>True
 | p :: t=>(∀ o,ops[p.1]?=some o->∀ (vs:Nat->Value) (d:Nat->Bool) (w:World),d p.1=false->C d w->(∀ q∈idx.filter (mI ops p.1),d q.1=true/\F q.1 vs w) ->
   o.wp P (over a0 (idx.filter (mI ops p.1)) vs) w (fun a' w'=>∃ v,a'=(over a0 (idx.filter (mI ops p.1)) vs).put o.dst v/\C (fun j=>d j||j == p.1) w'/\Ev p.1 w w'/\F p.1 (fun k=>if k=p.1 then v else vs k) w') Q)/\kA P ops Q F C Ev a0 idx t
theorem kA.at :∀ {l:List (Nat × Nat)},kA P ops Q F C Ev a0 idx l->∀ p∈l,∀ o,ops[p.1]?=some o->∀ (vs:Nat->Value) (d:Nat->Bool) (w:World),d p.1=false->C d w->(∀ q∈idx.filter (mI ops p.1),d q.1=true/\F q.1 vs w) ->
   o.wp P (over a0 (idx.filter (mI ops p.1)) vs) w (fun a' w'=>∃ v,a'=(over a0 (idx.filter (mI ops p.1)) vs).put o.dst v/\C (fun j=>d j||j == p.1) w'/\Ev p.1 w w'/\F p.1 (fun k=>if k=p.1 then v else vs k) w') Q
 | [],_,p,hp=>by cases hp
 | q :: t,h,p,hp=>by
  rcases List.mem_cons.1 hp with rfl | h1
  ·exact h.1
  exact kA.at h.2 p h1
theorem kA.cons {t deps:List (Nat × Nat)}(ho:ops[p.1]?=some o)(QH:o.dst=some p.2)(hd:idx.filter (mI ops p.1)=deps)
  (h:∀ (vs:Nat->Value) (d:Nat->Bool) (w:World),d p.1=false->C d w->(∀ q∈deps,d q.1=true/\F q.1 vs w)->∀ K:Act->World->Prop,Hid (∀ v w',C (fun j=>d j||j == p.1) w'->Ev p.1 w w'->F p.1 (fun k=>if k=p.1 then v else vs k) w'->∀ a',a'=(over a0 deps vs).put (some p.2) v->K a' w')->o.wp P (over a0 deps vs) w K Q) (ht:kA P ops Q F C Ev a0 idx t):kA P ops Q F C Ev a0 idx (p :: t) :=
 ⟨fun o' ho'=>by
  rw [ho] at ho';injection ho' with ho';subst ho';rw [hd];exact fun vs d w h0 hC hF=>h vs d w h0 hC hF _ (aa fun v w' h1 h2 h3 a' e=>⟨v,by rw [QH];exact e,h1,h2,h3⟩),ht⟩
structure EH (md:Region.Mode)(ops:Array Oper)(m:Nat)(idx:List (Nat × Nat))(ag:Nat->List Nat):Prop where
 sel:∀ (j:Nat) (o:Oper) cs b,ops[j]?=some o->o.op≠.select cs b
 le:m<=ops.size
 op:∀ p∈idx,p.1<m/\∃ o,ops[p.1]?=some o/\o.guard=none/\o.dst=some p.2
 n1:(idx.map (·.1)).Nodup
 n2:(idx.map (·.2)).Nodup
 dep:∀ p∈idx,∀ q∈idx,mI ops p.1 q=true->Region.waitsFor md ops p.1 q.1=true
 agr:∀ p∈idx,∀ k∈ag p.1,k=p.1\/∃ q∈idx,q.1=k/\mI ops p.1 q=true
 late:∀ p∈idx,∀ t,m<=t->t<ops.size->ky md ops ops.size t p.1=true
 down:∀ (t:Nat) (o:Oper),ops[t]?=some o->∀ e∈o.after,Region.binds md e=true->e.on<t
 seq:Region.seqB md ops (ops.size - m) m (Array.ofFn (n:=ops.size) fun t=>decide (t.1<m))=true
structure EL (md:Region.Mode)(ops:Array Oper)(m:Nat)(idx:List (Nat × Nat))(listed:Array Bool):Prop where
 size:listed.size=ops.size
 head:∀ t,t<m->listed.getD t false=true\/∃ p∈idx,p.1=t
 tail:∀ t,m<=t->t<ops.size->listed.getD t true=false
 clo:NH md ops listed
theorem xQ (h:zF md ops m idx ag listed=true):EH md ops m idx ag/\EL md ops m idx listed/\∀ p∈idx,listed.getD p.1 true=false:=by
 simp only [zF,eh,fk] at h;obtain ⟨⟨⟨⟨⟨⟨⟨⟨⟨⟨⟨⟨h1,h2⟩,h3⟩,h4⟩,h5⟩,h6⟩,h7⟩,h8⟩,h13⟩,h9⟩,h12⟩,h10⟩,h11⟩:=h;have k4:=fun p hp=>List.all_eq_true.1 h4 p hp;have k7:=fun t ht=>List.all_eq_true.1 h7 t (List.mem_range.2 ht)
 refine ⟨⟨XS h1,h3,fun p hp=>?_,h5,h6,fun p hp q hq hd=>?_,fun p hp k hk=>?_,fun p hp t ht hs=>Gs (List.all_eq_true.1 h9 p hp) Tdx hs (by
  have:=k7 t hs;simp only [show ¬ t<m by omega,fY,tz] at this;exact this),fun t o ho e he hb=>?_,h11⟩,⟨h2,fun t ht=>?_,fun t ht hs=>?_,oK h12⟩,fun p hp=>?_⟩
 ·have:=k4 p hp;simp only [eh,fk] at this;obtain ⟨⟨q1,_⟩,q3⟩:=this;refine ⟨q1,?_⟩;cases ho:ops[p.1]? with
  | none=>simp [ho] at q3
  | some o =>
   simp [ho] at q3;exact ⟨o,rfl,q3.1,q3.2⟩
 ·have:=List.all_eq_true.1 (List.all_eq_true.1 h8 p hp) q hq;simpa [hd] using this
 ·have:=List.all_eq_true.1 (List.all_eq_true.1 h13 p hp) k hk;simp only [tG,beq_iff_eq,nh,eh] at this;rcases this with q | ⟨q,hq,e,hd⟩
  ·exact .inl q
  exact .inr ⟨q,hq,e,hd⟩
 ·have:=List.all_eq_true.1 h10 t (List.mem_range.2 (Array.getElem?_eq_some_iff.1 ho).1);simp only [ho] at this;have:=Array.all_eq_true_iff_forall_mem.1 this e he;simpa [hb] using this
 ·have:=k7 t TcC;simp only [ht,ej,tG,nh,beq_iff_eq] at this;exact this
 ·have:=k7 t hs;simp only [show ¬ t<m by omega,fY,tz] at this;exact this
 have:=k4 p hp;simp only [eh,fk,tz] at this;exact this.1.2
theorem u7 (hw:Region.waitsFor md ops t i=true)(ht:t∈Region.ready md ops listed):listed.getD i false=true:=by
 obtain ⟨ot,Mo,e,he,hb,Le⟩:=A5 hw;obtain ⟨_,o,ho,hall⟩:=mem_ready.1 ht;rw [Mo] at ho;injection ho with ho;subst ho;have h1:=hall e he hb;rw [Le] at h1;exact h1
theorem pW (h:listed.getD i false=true):listed.getD i true=true:=by
 rcases mm i listed.size with h' | h'
 ·simp [h'] at h ⊢;exact h
 simp [xp h'] at h
theorem zX (hi:i<listed.size)(h:listed.getD i true=true):listed.getD i false=true:=by
 simp [hi] at h ⊢;exact h
theorem yA (hd:∀ (t:Nat) (o:Oper),ops[t]?=some o->∀ e∈o.after,Region.binds md e=true->e.on<t)(hs:listed.size=ops.size):∀ t,t<ops.size->listed.getD t true=false->∃ j,j∈Region.ready md ops listed:=by
 intro t;induction t using Nat.strongRecOn with
 | ind t ih =>
  intro ht hu;have ho:ops[t]?=some ops[t]:=aa0 ht;by_cases hall:∀ e∈ops[t].after,Region.binds md e=true->listed.getD e.on false=true
  ·exact ⟨t,mem_ready.2 ⟨hu,_,ho,hall⟩⟩
  simp only [Classical.not_forall] at hall;obtain ⟨e,he,hb,hn⟩:=hall;have hlt:=hd t _ ho e he hb;refine ih e.on hlt TcC ?_;cases h:listed.getD e.on true with
  | false=>rfl
  | true=>exact absurd (zX TcC h) hn
theorem Bi (hp:p∈idx)(hn:(idx.map (·.1)).Nodup)(hu:listed.getD p.1 true=false)(hs:p.1<listed.size) :
  (idx.filter fun q=>!listed.getD q.1 true).length=(idx.filter fun q=>!(listed.setIfInBounds p.1 true).getD q.1 true).length+1:=by
 obtain ⟨l1,l2,rfl⟩:=List.append_of_mem hp;rw [gl,iu,List.nodup_append] at hn;obtain ⟨_,h2,h3⟩:=hn;rw [List.nodup_cons] at h2;have e1:l1.filter (fun q=>!(listed.setIfInBounds p.1 true).getD q.1 true)=l1.filter (fun q=>!listed.getD q.1 true):=A0 fun q hq=>by
  rw [ly true (fun e=>h3 q.1 (List.mem_map.2 ⟨q,hq,rfl⟩) p.1 (cG ..) e.symm)]
 have e2:l2.filter (fun q=>!(listed.setIfInBounds p.1 true).getD q.1 true)=l2.filter (fun q=>!listed.getD q.1 true):=A0 fun q hq=>by
  rw [ly true (fun e=>h2.1 (List.mem_map.2 ⟨q,hq,e.symm⟩))]
 have hp1:(listed.setIfInBounds p.1 true).getD p.1 true=true:=by simp [hs]
 rw [List.filter_append,List.filter_append,E1 (by simp only [hu];rfl),ae7 (by simp only [hp1];simp),e1,e2];simp only [cD,cS];omega
theorem oF {tl:List Oper}(hF:EH md ops m idx ag)(UZ:∀ d w,C d w->S w)(hst:∀ p∈idx,∀ q∈idx,q.1≠p.1->∀ (vs us:Nat->Value) w w',(∀ k∈ag p.1,us k=vs k)->F p.1 vs w->Ev q.1 w w'->F p.1 us w')
  (hQ:∀ c (t t':Array Value) w,Q (.panic c) { a0 with tmps:=t } w->Q (.panic c) { a0 with tmps:=t' } w) (gR:kA P ops Q F C Ev a0 idx idx) (nt:∀ j,tl[j]?=ops[m+j]?) (NN:tl.length=ops.size - m)
  (OL:∀ (vs:Nat->Value) (d:Nat->Bool) (w:World),C d w->(∀ p∈idx,d p.1=true/\F p.1 vs w)->wpList P ops Q tl (over a0 idx vs) w) :
  ∀ (r:Nat) (L:Array Bool) (vs:Nat->Value) (w:World),EL md ops m idx L->(idx.filter fun p=>!L.getD p.1 true).length=r->C (fun j=>L.getD j true) w->(∀ p∈idx,L.getD p.1 true=true->F p.1 vs w) ->
   bG P md ops Q S (needs m ws) (r+tl.length) L (over a0 (idx.filter fun p=>L.getD p.1 true) vs) w:=by
 intro r;induction r with
 | zero =>
  intro L vs w hL hr hC hf;have hall:∀ p∈idx,L.getD p.1 true=true:=fun p hp=>by
   have h0:=List.filter_eq_nil_iff.1 (fX hr) p hp;simpa only [Bool.not_eq_true,Bool.not_eq_false'] using h0
  have ZH:L=Array.ofFn (n:=ops.size) fun t=>decide (t.1<m):=by
   apply Array.ext
   ·rw [hL.size,Array.size_ofFn]
   intro t h1 h2;rw [Array.getElem_ofFn];have hs:=hL.size;by_cases ht:t<m
   ·have:L.getD t true=true:=by
     rcases hL.head t ht with q | ⟨p,hp,rfl⟩
     ·exact pW q
     exact hall p hp
    simpa [h1,ht] using this
   have:=hL.tail t TcC TcC;simpa [h1,ht] using this
  have e:idx.filter (fun p=>L.getD p.1 true)=idx:=List.filter_eq_self.2 hall;rw [e,eJ];exact gM tl m L _ w qJ nt (by rw [NN,ZH];exact hF.seq) (OL vs _ w hC fun p hp=>⟨hall p hp,hf p hp (hall p hp)⟩)
 | succ r ih =>
  intro L vs w hL hr hC hf;have hex:∃ p∈idx,L.getD p.1 true=false:=by
   cases ML:idx.filter (fun p=>!L.getD p.1 true) with
   | nil=>rw [ML] at hr;simp at hr
   | cons p t =>
    have hp:p∈idx.filter (fun p=>!L.getD p.1 true):=by rw [ML];exact cG ..
    have hp2:=List.mem_filter.1 hp;exact ⟨p,hp2.1,by simpa only [tz] using hp2.2⟩
  obtain ⟨p0,hp0,hu0⟩:=hex;rw [show r+1+tl.length=(r+tl.length)+1 by omega];refine ⟨fun h0=>?_,fun i hi=>?_⟩
  ·obtain ⟨j,hj⟩:=yA hF.down hL.size p0.1 (cC (hF.op p0 hp0).1 hF.le) hu0;rw [h0] at hj;cases hj
  have ZI:i<m:=(mm i m).elim id fun h=>absurd hi (nW hL.clo (hF.late p0 hp0 i h (mV hi)) hu0)
  have OM:=(mem_ready.1 hi).1;obtain ⟨p,hp,rfl⟩:∃ p∈idx,p.1=i:=(hL.head i ZI).resolve_left fun q=>by rw [pW q] at OM;cases OM
  obtain ⟨_,o,ho,hg,U0⟩:=hF.op p hp;have OO:∀ q∈idx,mI ops p.1 q=true->L.getD q.1 true=true:=fun q hq hd=>pW (u7 (hF.dep p hp q hq hd) hi);have H:=gR.at p hp o ho vs _ w OM hC fun q hq=>⟨OO q (List.mem_filter.1 hq).1 (List.mem_filter.1 hq).2,hf q (List.mem_filter.1 hq).1 (OO q (List.mem_filter.1 hq).1 (List.mem_filter.1 hq).2)⟩;have nd:∀ f:Nat × Nat->Bool,((idx.filter f).map (·.2)).Nodup:=fun f=>(List.Sublist.map _ List.filter_sublist).nodup hF.n2
  have he:execOp (over a0 (idx.filter fun p=>L.getD p.1 true) vs).eval o=execOp (over a0 (idx.filter (mI ops p.1)) vs).eval o:=execOp_congr o (fun cs b=>hF.sel p.1 o cs b ho) fun x hx=>by
   cases x with
   | tmp t =>
    by_cases hq:∃ q∈idx,q.2=t
    ·obtain ⟨q,hq,rfl⟩:=hq;have hd:mI ops p.1 q=true:=by
      simp only [mI,ho,List.contains_iff_mem];exact ju _ (List.mem_filterMap.2 ⟨.tmp q.2,TdL,rfl⟩)
     rw [zN _ vs q _ (nd _) (List.mem_filter.2 ⟨hq,OO q hq hd⟩),zN _ vs q _ (nd _) (List.mem_filter.2 ⟨hq,hd⟩)]
    rw [mE _ vs t _ fun q hq' e=>hq ⟨q,(List.mem_filter.1 hq').1,e⟩,mE _ vs t _ fun q hq' e=>hq ⟨q,(List.mem_filter.1 hq').1,e⟩]
   | _=>rfl
  have hw:Region.wanted o (yielded ops (over a0 (idx.filter fun p=>L.getD p.1 true) vs).tmps)=true:=by simp [Region.wanted,hg]
  unfold wpOp;simp only [ho,hw,ej];refine .inl ?_;have H2:=Ck (a:=over a0 (idx.filter fun p=>L.getD p.1 true) vs) he (by rw [uo,uo]) (fun c w h=>by rw [xm] at h ⊢;exact hQ _ _ _ _ h) H;refine Oper.wp_mono (fun a' w'=>?_) H2;rintro ⟨v,rfl,hC',ZJ,ZK⟩;have hs:p.1<L.size:=by rw [hL.size];exact mV hi
  have key0:∀ j:Nat,(L.setIfInBounds p.1 true).getD j true=(L.getD j true||j == p.1):=fun j=>by
   by_cases e:j=p.1
   ·rw [e];simp [hs]
   rw [ly true (Ne.symm e)];simp [e]
  have key:∀ q:Nat × Nat,(L.setIfInBounds p.1 true).getD q.1 true=(L.getD q.1 true||q.1 == p.1):=fun q=>key0 q.1;refine ⟨fun _=>UZ _ _ hC',?_⟩
  have e2:(over a0 (idx.filter fun p=>L.getD p.1 true) vs).put o.dst v=over a0 (idx.filter fun q=>(L.setIfInBounds p.1 true).getD q.1 true) (fun k=>if k=p.1 then v else vs k):=by
   rw [U0,A0 fun q _=>key q];exact (xc vs p v (fun k=>L.getD k true) OM idx a0 hF.n2 hF.n1 hp).symm
  rw [e2];refine ih _ _ w' ⟨by simp [hL.size],fun t ht=>?_,fun t ht OP=>?_,hL.clo.set hi⟩ ?_ (by rw [funext key0];exact hC') (fun q hq X1=>?_)
  ·rcases hL.head t ht with q | q
   ·exact .inl (getD_set_true q)
   exact .inr q
  ·rw [ly true TcC];exact hL.tail t ht OP
  ·have:=Bi hp hF.n1 OM hs;omega
  by_cases e:q.1=p.1
  ·rw [e];exact ZK
  have QI:L.getD q.1 true=true:=by
   rw [key q] at X1;simpa [e] using X1
  refine hst q hq p hp (fun e'=>e e'.symm) vs _ w w' (fun k hk=>?_) (hf q hq QI) ZJ;refine bh fun ek=>?_;rcases hF.agr q hq k hk with q1 | ⟨r,hr,er,hdr⟩
  ·exact e (q1.symm.trans ek)
  obtain ⟨oq,ZL,e2,he2,hb2,U1⟩:=A5 (hF.dep q hq r hr hdr);have hqs:q.1<L.size:=by rw [hL.size];exact cC (hF.op q hq).1 hF.le
  have:=hL.clo q.1 oq ZL (zX hqs QI) e2 he2 hb2;rw [U1,er,ek] at this;rw [pW this] at OM;cases OM
theorem fE (ag:Nat->List Nat)(F:Nat->(Nat->Value)->World->Prop)(C:(Nat->Bool)->World->Prop)(Ev:Nat->World->World->Prop){w0:World}
  (hB:zF md l.toArray m idx ag listed=true) (QJ:fuel=idx.length+(l.drop m).length) (UZ:∀ d w,C d w->S w) (hst:∀ p∈idx,∀ q∈idx,q.1≠p.1->∀ (vs us:Nat->Value) w w',(∀ k∈ag p.1,us k=vs k)->F p.1 vs w->Ev q.1 w w'->F p.1 us w')
  (hQ:∀ c (t t':Array Value) w,Q (.panic c) { a0 with tmps:=t } w->Q (.panic c) { a0 with tmps:=t' } w) (hC:C (fun j=>listed.getD j true) w0) (gR:kA P l.toArray Q F C Ev a0 idx idx)
  (OL:∀ (vs:Nat->Value) (d:Nat->Bool) (w:World),C d w->(∀ p∈idx,d p.1=true/\F p.1 vs w)->wpList P l.toArray Q (l.drop m) (over a0 idx vs) w) :
  bG P md l.toArray Q S (needs m ws) fuel listed a0 w0:=by
 obtain ⟨h1,h2,h3⟩:=xQ hB;have hr:(idx.filter fun p=>!listed.getD p.1 true).length=idx.length:=by
  rw [List.filter_eq_self.2 fun p hp=>by rw [h3 p hp];rfl]
 have:=oF (ws:=ws) (S:=S) h1 UZ hst hQ gR (fun j=>by simp [pk]) TcD OL idx.length listed (fun _=>undef) w0 h2 hr hC (fun p hp h=>by rw [h3 p hp] at h;cases h);rw [QJ];have e:idx.filter (fun p=>listed.getD p.1 true)=[]:=List.filter_eq_nil_iff.2 fun p hp=>by rw [h3 p hp];simp
 rw [e] at this;exact this
end
theorem aS:(∀ (a:Act) (v:Value),a.put none v=a)/\(∀ (a:Act) (t:Nat) (v:Value),a.put (some t) v=⟨a.tmps.setIfInBounds t v,a.defers⟩)/\(∀ (l:List Value) (i:Nat) (x:Value),l.toArray.setIfInBounds i x=(l.set i x).toArray)/\(∀ (a b:Value) (l:List Value),(a::l).set 0 b=b::l)/\(∀ (a b:Value) (l:List Value) (i:Nat),(a::l).set (i+1) b=a::l.set i b):=⟨fun _ _=>rfl,fun _ _ _=>rfl,fun _ _ _=>by simp,fun _ _ _=>rfl,fun _ _ _ _=>rfl⟩
theorem ak:(∀ (a:Act) (t:Nat) (v:Value),a.put (some t) v=⟨a.tmps.setIfInBounds t v,a.defers⟩)/\(∀ (l:List Value) (i:Nat) (x:Value),l.toArray.setIfInBounds i x=(l.set i x).toArray)/\(∀ (a b:Value) (l:List Value),(a::l).set 0 b=b::l)/\(∀ (a b:Value) (l:List Value) (i:Nat),(a::l).set (i+1) b=a::l.set i b):=⟨fun _ _ _=>rfl,fun _ _ _=>by simp,fun _ _ _=>rfl,fun _ _ _ _=>rfl⟩
section
variable {P:Program} {ops:Array Oper} {Q:Exit->Act->World->Prop} {md:Region.Mode} {S:World->Prop} {N:Nat->Bool} {d:Tmp} {oi:Oper} {v:Value} {fuel:Nat} {listed:Array Bool} {a:Act} {w:World}
variable {a':Act}
theorem fz  (i:Nat) (h:bG P md ops Q S N fuel (listed.setIfInBounds i true) a' w) (hi:ops[i]?=some oi:=by rfl) (hd:oi.dst=some d:=by rfl) (hb:(Region.noSelect ops&&Region.free md ops listed i&&(Region.ready md ops listed).contains i&&!N i)=true:=by kernel_rfl) (hg:Region.wanted oi (yielded ops a.tmps)=true:=by rfl) (hy:∀ w,(fun _=>True) w->(execOp a.eval oi).run P w=.ok (.value v) w:=by (intro w _;go_simp;(try (with_reducible rfl)))) (hQ:∀ c a w,Q (.panic c) (a.put (some d) v) w->Q (.panic c) a w:=by exact fun _ _ _ h=>h) (ha:a.put (some d) v=a':=by (try simp only [ak]);(try exact rfl)):bG P md ops Q S N (fuel+1) listed a w:=nz hi hd hb hQ (Or.inl ⟨hg,hy⟩) Tdw
theorem gC  (hQ:∀ c (a:Act) (d:Tmp) (v:Value) w,Q (.panic c) (a.put (some d) v) w->Q (.panic c) a w) (i:Nat) (h:bG P md ops Q S N fuel (listed.setIfInBounds i true) a' w) (hi:ops[i]?=some oi:=by rfl) (hd:oi.dst=some d:=by rfl) (hb:(Region.noSelect ops&&Region.free md ops listed i&&(Region.ready md ops listed).contains i&&!N i)=true:=by kernel_rfl) (hg:Region.wanted oi (yielded ops a.tmps)=true:=by rfl) (hy:∀ w,(fun _=>True) w->(execOp a.eval oi).run P w=.ok (.value v) w:=by (intro w _;go_simp;(try (with_reducible rfl)))) (ha:a.put (some d) v=a':=by (try simp only [ak]);(try exact rfl)):bG P md ops Q S N (fuel+1) listed a w:=nz hi hd hb (fun _ _ _ h=>hQ _ _ _ _ _ h) (Or.inl ⟨hg,hy⟩) Tdw
theorem fS  (i:Nat) (hS:S w) (h:bG P md ops Q S N fuel (listed.setIfInBounds i true) a' w) (hi:ops[i]?=some oi:=by rfl) (hd:oi.dst=some d:=by rfl) (hb:(Region.noSelect ops&&Region.free md ops listed i&&(Region.ready md ops listed).contains i&&lM md ops N listed i&&BF md ops listed)=true:=by kernel_rfl) (hg:Region.wanted oi (yielded ops a.tmps)=true:=by rfl) (hy:∀ w,S w->(execOp a.eval oi).run P w=.ok (.value v) w:=by (intro w hSw;(try dsimp only at hSw);go_simp;(try (with_reducible rfl)))) (hQ:∀ c a w,Q (.panic c) (a.put (some d) v) w->Q (.panic c) a w:=by exact fun _ _ _ h=>h) (ha:a.put (some d) v=a':=by (try simp only [ak]);(try exact rfl)):bG P md ops Q S N (fuel+1) listed a w:=o7 hi hd hb hQ (Or.inl ⟨hg,hy⟩) hS Tdw
theorem cH  (hQ:∀ c (a:Act) (d:Tmp) (v:Value) w,Q (.panic c) (a.put (some d) v) w->Q (.panic c) a w) (i:Nat) (hS:S w) (h:bG P md ops Q S N fuel (listed.setIfInBounds i true) a' w) (hi:ops[i]?=some oi:=by rfl) (hd:oi.dst=some d:=by rfl) (hb:(Region.noSelect ops&&Region.free md ops listed i&&(Region.ready md ops listed).contains i&&lM md ops N listed i&&BF md ops listed)=true:=by kernel_rfl) (hg:Region.wanted oi (yielded ops a.tmps)=true:=by rfl) (hy:∀ w,S w->(execOp a.eval oi).run P w=.ok (.value v) w:=by (intro w hSw;(try dsimp only at hSw);go_simp;(try (with_reducible rfl)))) (ha:a.put (some d) v=a':=by (try simp only [ak]);(try exact rfl)):bG P md ops Q S N (fuel+1) listed a w:=o7 hi hd hb (fun _ _ _ h=>hQ _ _ _ _ _ h) (Or.inl ⟨hg,hy⟩) hS Tdw
end
theorem lR {P:Program} {ops:Array Oper} {Q:Exit->Act->World->Prop} {md:Region.Mode} {S:World->Prop} {N:Nat->Bool} {o:Oper} {fuel:Nat} {listed:Array Bool} {a:Act} {w:World} (i:Nat) (h:∀ K:Act->World->Prop,Go.RowKit.Hid (∀ a' w',S w'->bG P md ops Q S N fuel (listed.setIfInBounds i true) a' w'->K a' w')->o.wp P a w K Q) (hi:ops[i]?=some o:=by rfl) (hw:o.guard=none:=by rfl) (hr:Region.ready md ops listed=[i]:=by kernel_rfl):bG P md ops Q S N (fuel+1) listed a w:=au hi hw hr h
end Go.Proofs.YtaagglbgohjldaaGreatDoor
