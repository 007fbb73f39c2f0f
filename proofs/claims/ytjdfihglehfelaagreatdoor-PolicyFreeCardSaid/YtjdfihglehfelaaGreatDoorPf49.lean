/- Lemmas: RefC, PlfA. -/
import Derived.Test.YtjdfihglehfelaaGreatDoorPf48
import Derived.Test.YtjdfihglehfelaaGreatDoorPf31
set_option maxRecDepth 100000
set_option maxHeartbeats 32000000
set_option linter.all false
namespace Go.Proofs.YtjdfihglehfelaaGreatDoor
open Go.Proofs.Tryz
open Go.RowKit
theorem Ik (w:World)(B:Nat)(v vx:Value)(l m:List (Int × Int))(ty:TypeId)(hown:bM w B v l)(hx:xo w vx m)(hlen:l.length+m.length<=100000000)(hB:B<=w.heap.size) :
  ∃ v' w',(Builtin.append_ #[48,48] ty #[v,vx]).run prog w=.ok v' w'/\bM w' B v' (l++m)/\w.grownBy w' v.ownBlock:=by
 obtain ⟨i0,hi,hz0,hz1,hz2⟩:=ei DT;obtain ⟨p,cap,rfl,hlc,ij,hp⟩:=hx;cases p with
 | none =>
  have hm:m=[]:=by
   cases m with
   | nil=>rfl
   | cons a m=>obtain ⟨b,off,e,_⟩:=hp (by simp);cases e
  subst hm;refine ⟨v,w,?_,by simpa using hown,⟨rfl,rfl,rfl,bk _,fun _ _ _=>rfl⟩⟩;rcases hown.2 with ⟨rfl,hn⟩ | ⟨g,cap',cur,rfl,_,_,vr,_⟩
  ·simp [Builtin.append_,tU underlying48,sizeOf,typeInfo,hi,Builtin.lenOf,Builtin.firstCells]
  ·simp [Builtin.append_,tU underlying48,sizeOf,typeInfo,hi,Builtin.lenOf,Builtin.firstCells,vr,storeCells]
 | some a =>
  by_cases h0:0<m.length
  ·obtain ⟨b,off,e,hb,hc⟩:=hp h0
   cases e
   obtain ⟨v',w',hr,ho',hg,_⟩:=run_append_own (P:=prog) w B 48 ty 62 i0 _ 2 16 underlying48 hi hz0 hz1 hz2 rfl (by decide) v l.length (bU l) hown ⟨b,off,none⟩ m.length cap (bU m) (dx m) (fun j u hu=>by
    rw [iz];have hj:j<m.length*2:=by rw [<- dx];exact (List.getElem?_eq_some_iff.1 hu).1
    obtain ⟨p,hp⟩:=De m (j / 2) (by omega);have h1:=kr m (j / 2) p hp;have h2:=hc (j / 2) p hp;rcases Nat.mod_two_eq_zero_or_one j with hm | hm
    ·have e:j / 2*2=j:=by omega
     rw [e] at h1 h2;rw [h1.1] at hu;rw [h2.1,hu]
    ·have e:j / 2*2+1=j:=by omega
     rw [e] at h1;rw [h1.2] at hu
     rw [<- hu,<- h2.2,Nat.add_assoc,e]) (qI _) (by unfold maxLen;omega) (by omega) hB
   refine ⟨v',w',hr,?_,hg⟩;unfold bM;rw [gJ,cD];exact ho'
  ·have hm:m=[]:=fX (by omega)
   subst hm;obtain ⟨v',w',hr,ho',hg,_⟩:=run_append_own (P:=prog) w B 48 ty 62 i0 _ 2 16 underlying48 hi hz0 hz1 hz2 rfl (by decide) v l.length (bU l) hown a 0 cap [] rfl (fun j u hu=>by simp at hu) (fun u hu=>by cases hu) (by unfold maxLen;omega) (by omega) hB
   refine ⟨v',w',hr,?_,hg⟩;unfold bM;simpa using ho'
theorem Gu {w:World}{ops:Array Oper}{rest:List Oper}{o:Oper}{a:Act}{Q:Exit->Act->World->Prop}(hgd:o.guard=none)(s x:Operand)
  (ho:o.op=.call { callee:=.builtin .append,args:=#[s,x],argTypes:=#[48,48] })
  (B:Nat) (v vx:Value) (l m:List (Int × Int)) (hs:a.eval s=v) (hx:a.eval x=vx) (hown:bM w B v l) (kf:xo w vx m) (hlen:l.length+m.length<=100000000) (hB:B<=w.heap.size)
  (h:∀ v' w',bM w' B v' (l++m)->Below B w w'->wpList prog ops Q rest (a.put o.dst v') w'):wpList prog ops Q (o :: rest) a w:=by
 obtain ⟨v',w',hr,h1,h2⟩:=Ik w B v vx l m o.type hown kf hlen hB;refine wpList_plain hgd fun K hK=>?_;unfold Oper.wp;simp only [execOp,ho,resolve,invoke,builtin,Sem.run_bind,Sem.run_pure,ud,tS,iu,List.map_nil,hs,hx,hr];exact hK _ _ (h v' w' h1 ((bj B w).grown h2 hB (fun k hk=>(hown.lt k hk).1)))
theorem Ig {P:List Int}{l:List (Int × Int)}(hP:Cq P (eU l))(hv:dI l=true):∀ t∈P,0<=t/\t<=1073741824:=fun t ht=>by
 have h:=(hP.2 t).1 ht;unfold eU at h;rw [ur] at h;obtain ⟨p,hp,h⟩:=h;have:=iF hv p hp;simp at h;rcases h with rfl | rfl <;> omega
theorem Hu (l:List (Int × Int)):∀ r∈l,r.1∈eU l/\r.1+r.2∈eU l:=fun r hr=>by
 unfold eU;rw [ur,ur];exact ⟨⟨r,hr,by simp⟩,⟨r,hr,by simp⟩⟩
theorem He (a b:List (Int × Int)):dI (a++b)=(dI a&&dI b):=by simp [dI]
def Iz (kind:Int)(x y:Bool):Bool:=(kind == 0&&!x&&!y)||(kind == 1&&(!x||y))||(kind == 2&&(!x||!y))
theorem Il (kind:Int)(h:kind=0\/kind=1\/kind=2)(x y:Bool):Iz kind x y=!GN kind x y:=by
 rcases h with rfl | rfl | rfl <;> cases x <;> cases y <;> rfl
theorem Iu (M:Int)(l:List (Int × Int))(h:Row l)(hb:∀ p∈l,0<=p.1/\0<=p.2/\p.1+p.2<=M):∀ p∈glue l,0<=p.1/\0<=p.2/\p.1+p.2<=M:=by
 rw [GA l h];have:=CL M l hb l.length (bk _);rw [cI] at this;exact this
def IA (w:World)(S:Int->Prop)(N:Nat)(e:Ending)(w':World):Prop :=
 ∃ v x,e=.returned v/\bM w' w.heap.size v x/\iE x S/\dI x=true/\x.length<=N/\Below w.heap.size w w'
theorem Gn (a b:List (Int × Int))(kind:Int)(zE:kind=0\/kind=1\/kind=2)(v1 v2:Value)(w:World)(hr1:xo w v1 a)(hr2:xo w v2 b)(hv1:dI a=true)(hv2:dI b=true)(hl1:a.length<=400000)(hl2:b.length<=400000) :
  Calls prog 24 #[v1,v2,.int .i64 kind] w (IA w (fun n=>GN kind (kO a n) (kO b n)=true) (2*(a.length+b.length))):=by
 have J4:=aa hv1;have Je:=aa hv2;have XM:=aa zE;clear hv1 hv2 zE;have RZ:=hr1;have sB:=hr2;obtain ⟨pa,ca,rfl,_⟩:=RZ;obtain ⟨pb,cb,rfl,_⟩:=sB;have Ja:=aa hr1;have E3:=aa hr2;go_enter func24,ntmps24
 go_wp2_with (at_builtin;refine Gu rfl _ _ rfl w.heap.size _ _ [] a rfl rfl (bM.nil _ _) hr1 (by simp;omega) (bk _) ?_)
 intro va w1 PT hb1;have Od:bM w1 w.heap.size va a:=by first | exact PT | simpa using PT
 clear hr1 PT;have Th:=hr2.below hb1;clear hr2
 go_wp2_with (at_builtin;refine Gu rfl _ _ rfl w.heap.size va _ a b rfl rfl Od Th (by omega) hb1.size ?_)
 intro vab w2 Ti hb2;have hb02:Below w.heap.size w w2:=hb1.trans hb2;have ra:xo w2 (.slice pa a.length ca) a:=Ja.o.below hb02;have rb:xo w2 (.slice pb b.length cb) b:=E3.o.below hb02;have Tj:dI (a++b)=true:=by rw [He,J4.o,Je.o];rfl
 have Tk:=aa Tj;clear Tj Od Th hb1 hb2
 go_wp2_with fail
 refine (G8 (a++b) vab w2 Ti.rd Tk.o (by simp;omega)).mono ?_;rintro e w3 ⟨vp,P,rfl,hrp,hP,Pe,hb3⟩;replace ra:=ra.below hb3;replace rb:=rb.below hb3;have hb03:=mn hb02 hb3;have Ps:P.length<=2*(a.length+b.length):=by rw [kE] at Pe;simp at Pe;omega
 have HP:=aa hP;have Kp:=aa (Ig hP Tk.o);clear hP Pe Ti hb3 hb02;obtain ⟨qp,cp,rfl,Ui,Sa,Un⟩:=hrp;obtain ⟨f,hf⟩:∃ f:Int->Bool,f=fun t=>GN kind (Gp a t) (Gp b t):=⟨_,rfl⟩;have HF:=aa hf;clear hf;go_wp2
 go_loopw [7,9] (fun vo vn wr=>∃ m:Nat,m<=P.length/\vn=.int .i64 m/\bM wr w3.heap.size vo (glue (Gf (P.take (m+1)) f))/\Below w3.heap.size w3 wr) (fun _ vn _=>P.length - (intOf vn).toNat)
 case atStart=>exact ⟨0,cg _,rfl,by rw [Ch];exact bM.nil _ _,bj _ _⟩
 case round =>
  obtain ⟨m,hm,rfl,hown,hb⟩:=hrel;obtain ⟨o,ho⟩:∃ o,o=glue (Gf (P.take (m+1)) f):=⟨_,rfl⟩;rw [<- ho] at hown
  have JV:o.length<=2*(a.length+b.length):=by
   rw [ho];have h1:=Io (Gf (P.take (m+1)) f);have h2:=wJ f (P.take (m+1));simp at h2;omega
  have fL:=GH f (P.take (m+1)) (HP.o.1.sublist (List.take_sublist _ _))
  have Jp:∀ p∈o,0<=p.1/\0<=p.2/\p.1+p.2<=1073741824:=by
   rw [ho];refine Iu 1073741824 _ fL (fun r hr=>?_);have h1:=uq f (P.take (m+1)) (HP.o.1.sublist (List.take_sublist _ _)) r hr;have h2:=Kp.o _ (tR h1.1);have h3:=Kp.o _ (tR h1.2.1);omega
  have HO:=aa ho;clear ho fL
  by_cases hlt:m+1<P.length
  ·obtain ⟨bp,PC,rfl,KR,Mq⟩:=Un (by omega)
   obtain ⟨t,ht⟩:=aj P m (by omega);obtain ⟨t2,ht2⟩:=aj P (m+1) hlt;have cX:bp<wr.heap.size:=cC KR hb.size;have PU:=(Mq.below hb KR) m t ht;have Ow:=(Mq.below hb KR) (m+1) t2 ht2;have Wy:=aG cX PU;obtain ⟨ht0,ht1⟩:=Kp.o t (ct ht);obtain ⟨ht20,ht21⟩:=Kp.o t2 (ct ht2)
   have Nh:t<t2:=by
    obtain ⟨h1,e1⟩:=List.getElem?_eq_some_iff.1 ht;obtain ⟨h2,e2⟩:=List.getElem?_eq_some_iff.1 ht2;have:=List.pairwise_iff_getElem.1 HP.o.1 m (m+1) h1 h2 (by omega);omega
   have HT:=aa ht;have KL:=aa ht2;have RA:=aa (fun (q:fo)=>(ra.below hb).below (dQ wr q));have RB:=aa (fun (q:fo)=>(rb.below hb).below (dQ wr q));have yq:=tu P f m t t2 HT.o KL.o;have Oi:f t=GN kind (Gp a t) (Gp b t):=by rw [HF.o]
   have B6:=aa yq;have DG:=aa Oi;clear ht ht2 Mq Un yq Oi;have hd22:decide ((m:Int)+1<(P.length:Int))=true:=by simp;omega
   have hml:m<P.length:=by omega
   go_wp2_with fail
   (refine aU (by kernel_rfl) (by kernel_rfl) ?_;(repeat (go_big_quiet_step ((first | (go_at_call_of 63 (Value.slice pa a.length ca);exact iH (Gz a t _ _ (by omega) (RA.o _))) | (go_at_call_of 63 (Value.slice pb b.length cb);exact iH (Gz b t _ _ (by omega) (RB.o _)))))));(with_reducible refine fR ?_);intro wq ia;have kq:=dY ia;clear ia)
   have C0:=hown.below kq;have JN:=mn hb kq;have ae6:=(kq.cell (p:=⟨bp,PC+m,none⟩) cX).trans PU;have Zp:=(kq.cell (p:=⟨bp,PC+(m+1),none⟩) cX).trans Ow;clear hown Wy PU Ow hb RA RB;generalize R1:Gp a t=xa at *;generalize qu:Gp b t=xb at *;clear R1 qu
   go_upto_region 7 with fail
   go_cut [69] (fun v wc=>v=.bool (Iz kind xa xb)/\wc=wq)
   case first =>
    rcases XM.o with rfl | rfl | rfl
    all_goals
     cases xa <;> cases xb
     all_goals
      go_wp2;go_meet;exact ⟨rfl,by first | rfl | trivial⟩
   case rest =>
    obtain ⟨rfl,rfl⟩:=hcut;rw [Il kind XM.o,<- DG.o];cases Oi:f t
    ·have yq:glue (Gf (P.take (m+1+1)) f)=o:=by rw [B6.o,Oi,HO.o];simp
     have Mi:=aa yq;clear yq;go_wp2;go_roundw
     case rel=>exact ⟨m+1,by omega,by go_num,by rw [Mi.o];exact C0,JN⟩
     case measure=>simp [intOf];omega
    ·have yq:glue (Gf (P.take (m+1+1)) f)=qz o (t,t2 - t):=by rw [B6.o,Oi,HO.o];simp only [ej];exact Gx _ _
     have Mi:=aa yq;clear yq;rcases List.eq_nil_or_concat o with rfl | ⟨i,q,rfl⟩
     ·obtain ⟨p3,cap3,rfl,_,_,_⟩:=C0.rd
      go_wp2;go_quiet (fail);go_wp2
      (refine uk _ 16 (by kernel_rfl) rfl rfl (by kernel_rfl) (by kernel_rfl) (fun _ _ _ _ h=>h) (by go_simp;rfl) ?_;simp only [xi,iv,cQ,cL];(repeat (go_big_quiet_step (fail)));(with_reducible refine fR ?_);intro wq ia;obtain ⟨nq,ia⟩:=ia;subst ia)
      go_wp2_with (at_builtin;refine jg rfl _ _ rfl w3.heap.size _ [] (t,t2 - t) rfl ?c1 wc.heap.size 1 rfl ?c2 ?c3 (by simp) ?c4 ?_)
      case c1=>refine C0.below ?_;(repeat' (first | exact bj _ _ | exact bk _ | (refine dT ?_ ?_ _) | (refine aT ?_ _) | (refine ee ?_) | (simp;done) | (simp;omega)))
      try (case c2=>exact aD (by simp) rfl)
      try (case c3=>exact aD (by simp) rfl)
      case c4=>have:=JN.size;simp;omega
      intro v8 w8 ho8 hb8 _;have hb9:Below w3.heap.size w3 w8:=(JN.trans (by refine kt (B:=wc.heap.size) ?_ JN.size;(repeat' (first | exact bj _ _ | exact bk _ | (refine dT ?_ ?_ _) | (refine aT ?_ _) | (refine ee ?_) | (simp;done) | (simp;omega))))).trans hb8;clear hb8 C0;go_wp2;go_roundw
      case rel=>exact ⟨m+1,by omega,by go_num,by rw [Mi.o];exact ho8,hb9⟩
      case measure=>simp [intOf];omega
     ·simp only [List.concat_eq_append] at *
      have hq:=Jp q (by simp);obtain ⟨hq0,hq1,hq2⟩:=hq;clear Jp;obtain ⟨g,cap3,rfl,TR,ye,hgc,KA,Vq,Vr,Yi,hst⟩:=C0.last;have KY:i.length+1<=10000000:=by simp at JV;omega
      clear hst
      by_cases he:q.1+q.2=t
      ·have Qu:(q.1+q.2 == t)=true:=by simp [he]
       have K2:qz (i++[q]) (t,t2 - t)=i++[(q.1,q.2+(t2 - t))]:=by
        unfold qz;simp [he]
       have Qz:=aa K2;have HE:=aa he;clear K2 he;go_wp2;go_quiet (fail);go_wp2
       (refine il 19 (by kernel_rfl) (by kernel_rfl) ?_;simp only [xi,iv,cQ,cL];(repeat (go_big_quiet_step (fail)));(with_reducible refine fR ?_);intro wq ia;obtain ⟨nq,ia⟩:=ia;subst ia)
       go_wp2;go_roundw
       case rel =>
        refine ⟨m+1,by omega,by go_num,?_,?_⟩
        ·rw [Mi.o,Qz.o]
         refine bM.setLast ?_ _;refine C0.below ?_
         (repeat' (first | exact bj _ _ | exact bk _ | (refine dT ?_ ?_ _) | (refine aT ?_ _) | (refine ee ?_) | (simp;done) | (simp;omega)))
        ·refine Below.setCell ?_ (by exact TR) _
         refine JN.trans ?_;refine kt (B:=wc.heap.size) ?_ JN.size
         (repeat' (first | exact bj _ _ | exact bk _ | (refine dT ?_ ?_ _) | (refine aT ?_ _) | (refine ee ?_) | (simp;done) | (simp;omega)))
       case measure=>simp [intOf];omega
      ·have Qu:(q.1+q.2 == t)=false:=by simp [he]
       have K2:qz (i++[q]) (t,t2 - t)=i++[q]++[(t,t2 - t)]:=by
        unfold qz;simp [he]
       have Qz:=aa K2;clear K2 he;go_wp2;go_quiet (fail);go_wp2
       (refine uk _ 16 (by kernel_rfl) rfl rfl (by kernel_rfl) (by kernel_rfl) (fun _ _ _ _ h=>h) (by go_simp;rfl) ?_;simp only [xi,iv,cQ,cL];(repeat (go_big_quiet_step (fail)));(with_reducible refine fR ?_);intro wq ia;obtain ⟨nq,ia⟩:=ia;subst ia)
       go_wp2_with (at_builtin;refine jg rfl _ _ rfl w3.heap.size _ (i++[q]) (t,t2 - t) rfl ?c1 wc.heap.size 1 rfl ?c2 ?c3 (by simp;omega) ?c4 ?_)
       case c1=>refine C0.below ?_;(repeat' (first | exact bj _ _ | exact bk _ | (refine dT ?_ ?_ _) | (refine aT ?_ _) | (refine ee ?_) | (simp;done) | (simp;omega)))
       try (case c2=>exact aD (by simp) rfl)
       try (case c3=>exact aD (by simp) rfl)
       case c4=>have:=JN.size;simp;omega
       intro v8 w8 ho8 hb8 _;have hb9:Below w3.heap.size w3 w8:=(JN.trans (by refine kt (B:=wc.heap.size) ?_ JN.size;(repeat' (first | exact bj _ _ | exact bk _ | (refine dT ?_ ?_ _) | (refine aT ?_ _) | (refine ee ?_) | (simp;done) | (simp;omega))))).trans hb8;clear hb8 C0;go_wp2;go_roundw
       case rel=>exact ⟨m+1,by omega,by go_num,by rw [Mi.o,Qz.o];first | exact ho8 | simpa using ho8,hb9⟩
       case measure=>simp [intOf];omega
  ·have hd22:decide ((m:Int)+1<(P.length:Int))=false:=by simp;omega
   have yq:glue (Gf P f)=o:=by
    have:=HO.o;rw [jz (by omega)] at this;exact this.symm
   have gw:=GX P f HP.o.1;rw [yq] at gw;have j9:=aa gw;have XN:=aa Jp;clear yq gw Jp;go_wp2;go_ret
   have Ur:iE o fun n=>GN kind (kO a n) (kO b n)=true:=by
    refine ⟨j9.o.1,fun n=>(j9.o.2 n).trans ?_⟩
    have hff:f=fun t=>GN kind (kO a t) (kO b t):=by
     rw [HF.o]
     funext t
     rw [Hy a t J4.o,Hy b t Je.o]
    rw [hff];refine xD a b (GN kind) (by rcases XM.o with rfl | rfl | rfl <;> rfl) P HP.o.1 (fun r hr=>?_) n
    have:=Hu (a++b) r (by rw [oT];exact hr);exact ⟨(HP.o.2 _).2 this.1,(HP.o.2 _).2 this.2⟩
   refine ⟨_,o,rfl,hown.mono hb03.size,Ur,?_,JV,mn hb03 hb⟩;unfold dI;rw [eL];intro r hr;have:=XN.o r hr;unfold nT;simp;omega
open Go.Maps Go.Shelf
theorem Gr {P:Program}{md:Region.Mode}{ops:Array Oper}{Q:Exit->Act->World->Prop}{S:World->Prop}{N:Nat->Bool}{i:Nat}{o:Oper}{fuel:Nat}{listed:Array Bool}{a:Act}{w:World}(hi:ops[i]?=some o)(hw:Region.wanted o (yielded ops a.tmps)=true)(hr:Region.ready md ops listed=[i])
  (h:∀ K:Act->World->Prop,Hid (∀ a' w',S w'->bG P md ops Q S N fuel (listed.setIfInBounds i true) a' w'->K a' w')->o.wp P a w K Q):bG P md ops Q S N (fuel+1) listed a w:=by
 refine ⟨fun h0=>(by rw [hr] at h0;cases h0),fun j hj=>?_⟩
 rw [hr] at hj;obtain rfl:j=i:=by simpa using hj
 unfold wpOp;simp only [hi,hw,ej];exact .inl (h _ (aa fun a' w' h1 h2=>⟨fun _=>h1,h2⟩))
theorem cz {P:Program}{md:Region.Mode}{ops:Array Oper}{Q:Exit->Act->World->Prop}{S:World->Prop}{N:Nat->Bool}{d:Tmp}{oi:Oper}{fuel:Nat}{listed:Array Bool}{a:Act}{w:World}
  (hQ:∀ c (a:Act) (d:Tmp) (v:Value) w,Q (.panic c) (a.put (some d) v) w->Q (.panic c) a w) (i:Nat) (hS:S w)
  (h:bG P md ops Q S N fuel (listed.setIfInBounds i true) (a.put (some d) undef) w) (hi:ops[i]?=some oi:=by rfl) (hd:oi.dst=some d:=by rfl)
  (hb:(Region.noSelect ops&&Region.free md ops listed i&&(Region.ready md ops listed).contains i&&lM md ops N listed i&&BF md ops listed)=true:=by kernel_rfl)
  (hg:Region.wanted oi (yielded ops a.tmps)=false:=by rfl):bG P md ops Q S N (fuel+1) listed a w :=
 o7 hi hd hb (fun _ _ _ h=>hQ _ _ _ _ _ h) (.inr ⟨hg,rfl⟩) hS h
theorem Ha {a b s:List (Int × Int)}{A B:Int->Prop}(ha:iE a A)(hb:iE b B)(hs:iE s (fun n=>GN 1 (kO a n) (kO b n)=true))(hab:∀ n,A n->B n):s=[] :=
 hs.eq (y:=[]) (T:=fun _=>False) ⟨yP,fun n=>⟨fun q=>(jd n q).elim,fun q=>q.elim⟩⟩ fun n=>by
  have e:GN 1 (kO a n) (kO b n)=(kO a n&&!kO b n):=rfl;rw [e,eh,iff_false];rintro ⟨h1,h2⟩;have:=(fe b n).2 ((hb.2 n).2 (hab n ((ha.2 n).1 ((fe a n).1 h1))));rw [this] at h2;cases h2
theorem Iw {x:List (Int × Int)}{A:Int->Prop}(hx:iE x A)(h:∀ n,¬ A n):x=[] :=
 hx.eq (y:=[]) (T:=fun _=>False) ⟨yP,fun n=>⟨fun q=>(jd n q).elim,fun q=>q.elim⟩⟩ fun n=>by
  rw [iff_false];exact h n
theorem Ht {g:af}{r:aY}{d:az}{n:Int}(h:(d.closed||d.missing)=true):¬ kI g r d n:=by
 rintro ⟨h1,-⟩;unfold nD iD jV at h1;cases hc:d.closed <;> cases hm:d.missing <;> simp [hc,hm] at h h1
theorem Hm {g:af}{r:aY}{d:az}{n:Int}(hc:d.closed=false)(hm:d.missing=false)(ht:r.tag.toList.isEmpty=true):kI g (r.pol 4) d n↔xy g d n:=by
 have e:nD g (r.pol 4) d=true:=by
  unfold nD iD jV jG nN vE;have e1:(r.pol 4).tag=r.tag:=rfl;have e2:(r.pol 4).Gg=4:=rfl;rw [hc,hm,e1,e2,ht];rfl
 unfold kI;rw [e,bh (by simp [uM,aY.pol])];simp
theorem Hr (Q:Exit->Act->World->Prop)(c0 c1 c2 c3 c7 c9 c13 c14 c15 c16 c17 c18 c19 c20 c21 c22 c23 c24 c25 c26 c27 c28 c29 c30 c31 c32 c33 c34 c35 c36 c37 c38 c39 c40 c41 c42 c43 c44 c45 c46 c47 c48 c49 c50 c51 c52 c53 c54 c55 c56 c57 c58 c59 c60 c61 c62 c63 c64 c65 c66 c67 c68 c69 c70 c71 c72 c73 c74 c75 c76 c77 c78 c79 c80 c81 c82 c83 c84 c85 c86 c87 c88 c89 c90 c91 c92 c93 c94 c95 c96 c97 c98 c99 c100 c101 c102 c103 c104 c105 c106 c107 c108 c109 c110 c111 c112 c113 c114 c115 c116 c117 c118 c119 c120 c121 c122 c123 c124 c125 c126 c127 c128 c129 c130 c131 c132 c133 c134 c135 c136 c137 c138 c139:Value)(w:World)(Bg Bq Bd bx by' k nx cx cy lx:Nat)(px:Option Addr)(cxx:Nat)(ux uy fv:Value)(cl mi:Bool)(tag:ByteArray)
  (hk:k<nx) (OI:nx<=cx) (hcy:nx<=cy) (Ma:cx<=9223372036854775807) (Tl:cy<=9223372036854775807) (Ox:ux=.slice px lx cxx) (hlx:lx<=300000) (Tm:(cl||mi)=true->lx=0)
  (hb1:bx<w.heap.size) (hb2:by'<w.heap.size) (hb3:Bd<w.heap.size) (hb4:Bq<w.heap.size) (hc1:w.cell? ⟨bx,k,none⟩=some ux) (hc2:w.cell? ⟨by',k,none⟩=some uy) (hc3:w.cell? ⟨Bd,4,none⟩=some (.bool cl)) (hc4:w.cell? ⟨Bd,5,none⟩=some (.bool mi)) (hc5:w.cell? ⟨Bq,4,none⟩=some (.string tag))
  (h1:∀ w',Below w.heap.size w w'->Calls prog 24 #[ux,fv,.int .i64 1] w' fun e w''=>∃ p c,e=.returned (.slice p 0 c)/\Below w.heap.size w w'')
  (h2:∀ w',Below w.heap.size w w'->Calls prog 24 #[ux,uy,.int .i64 1] w' fun e w''=>∃ p c,e=.returned (.slice p 0 c)/\Below w.heap.size w w'')
  (h3:cl=false->mi=false->tag.toList.isEmpty=true->∀ w',Below w.heap.size w w'->Calls prog 25 #[uy,fv] w' fun e w''=>e=.returned (.bool true)/\Below w.heap.size w w'')
  (HK:Hid (∀ (w':World) (u78 u79 u80 u81 u82 u83 u84 u85 u86 u87 u88 u89 u90 u91 u92 u93 u94 u95 u96 u97 u98 u99 u100 u101 u102 u103 u104 u105 u106 u107 u108 u109 u110 u111 u112 u113 u114 u115 u116 u117 u118 u119 u120 u121 u122 u123 u124 u125 u126 u127 u128 u129 u130 u131 u132 u133 u134 u135 u136 u137:Value),Below w.heap.size w w'->Q .normal ⟨#[c0,c1,c2,c3,.pointer (some ⟨Bg,0,none⟩),.pointer (some ⟨Bq,0,none⟩),.slice (some ⟨bx,0,none⟩) nx cx,c7,.slice (some ⟨by',0,none⟩) nx cy,c9,.int .i64 (k:Int),.pointer (some ⟨Bd,0,none⟩),fv,c13,c14,c15,c16,c17,c18,c19,c20,c21,c22,c23,c24,c25,c26,c27,c28,c29,c30,c31,c32,c33,c34,c35,c36,c37,c38,c39,c40,c41,c42,c43,c44,c45,c46,c47,c48,c49,c50,c51,c52,c53,c54,c55,c56,c57,c58,c59,c60,c61,c62,c63,c64,c65,c66,c67,c68,c69,c70,c71,c72,c73,c74,c75,c76,c77,u78,u79,u80,u81,u82,u83,u84,u85,u86,u87,u88,u89,u90,u91,u92,u93,u94,u95,u96,u97,u98,u99,u100,u101,u102,u103,u104,u105,u106,u107,u108,u109,u110,u111,u112,u113,u114,u115,u116,u117,u118,u119,u120,u121,u122,u123,u124,u125,u126,u127,u128,u129,u130,u131,u132,u133,u134,u135,u136,u137,.bool false,c139],[]⟩ w'))
  (hQ:∀ c (a:Act) (d:Tmp) (v:Value) w,Q (.panic c) (a.put (some d) v) w->Q (.panic c) a w) :
  (Ai Tryz.f5 16).wp prog Q ⟨#[c0,c1,c2,c3,.pointer (some ⟨Bg,0,none⟩),.pointer (some ⟨Bq,0,none⟩),.slice (some ⟨bx,0,none⟩) nx cx,c7,.slice (some ⟨by',0,none⟩) nx cy,c9,.int .i64 (k:Int),.pointer (some ⟨Bd,0,none⟩),fv,c13,c14,c15,c16,c17,c18,c19,c20,c21,c22,c23,c24,c25,c26,c27,c28,c29,c30,c31,c32,c33,c34,c35,c36,c37,c38,c39,c40,c41,c42,c43,c44,c45,c46,c47,c48,c49,c50,c51,c52,c53,c54,c55,c56,c57,c58,c59,c60,c61,c62,c63,c64,c65,c66,c67,c68,c69,c70,c71,c72,c73,c74,c75,c76,c77,c78,c79,c80,c81,c82,c83,c84,c85,c86,c87,c88,c89,c90,c91,c92,c93,c94,c95,c96,c97,c98,c99,c100,c101,c102,c103,c104,c105,c106,c107,c108,c109,c110,c111,c112,c113,c114,c115,c116,c117,c118,c119,c120,c121,c122,c123,c124,c125,c126,c127,c128,c129,c130,c131,c132,c133,c134,c135,c136,c137,c138,c139],[]⟩ w:=by
 conv=>arg 2;whnf
 have hS:∀ w':World,Below w.heap.size w w'->(w'.cell? ⟨bx,k,none⟩=some ux/\w'.cell? ⟨by',k,none⟩=some uy/\w'.cell? ⟨Bd,4,none⟩=some (.bool cl)/\w'.cell? ⟨Bd,5,none⟩=some (.bool mi)/\w'.cell? ⟨Bq,4,none⟩=some (.string tag)):=fun w' e=>⟨(e.cell (p:=⟨bx,k,none⟩) hb1).trans hc1,(e.cell (p:=⟨by',k,none⟩) hb2).trans hc2,(e.cell (p:=⟨Bd,4,none⟩) hb3).trans hc3,(e.cell (p:=⟨Bd,5,none⟩) hb3).trans hc4,(e.cell (p:=⟨Bq,4,none⟩) hb4).trans hc5⟩;have HS:=aa hS;clear hS;have H1:=aa h1;clear h1;have H2:=aa h2;clear h2;have H3:=aa h3;clear h3;have Oy:=aa Ox;clear Ox;have Oz:=aa Tm;clear Tm;clear hc1 hc2 hc3 hc4 hc5;refine aL (fun w'=>(w'.cell? ⟨bx,k,none⟩=some ux/\w'.cell? ⟨by',k,none⟩=some uy/\w'.cell? ⟨Bd,4,none⟩=some (.bool cl)/\w'.cell? ⟨Bd,5,none⟩=some (.bool mi)/\w'.cell? ⟨Bq,4,none⟩=some (.string tag))) 61 [] (by kernel_rfl) (HS.o _ (bj _ _).drew) (fun hHeld=>?_);refine cH hQ 0 hHeld ?_;try simp only [ak];refine cH hQ 1 hHeld ?_;try simp only [ak];refine cH hQ 2 hHeld ?_;try simp only [ak];refine cH hQ 3 hHeld ?_;try simp only [ak];refine cH hQ 4 hHeld ?_;try simp only [ak];refine Gr (i:=5) rfl rfl (by kernel_rfl) (fun K hK=>?_);go_simp;refine (H1.o _ (bj _ _).drew).mono ?_;rintro e w1 ⟨p1,c1',rfl,hb1⟩;have cU:=aa hb1;clear hb1;refine hK.o _ _ (HS.o _ cU.o) ?_;clear hK K hHeld;have hHeld:=HS.o _ cU.o;refine cH hQ 6 hHeld ?_;try simp only [ak];refine cH hQ 7 hHeld ?_;try simp only [ak];refine cH hQ 8 hHeld ?_;try simp only [ak];refine cH hQ 9 hHeld ?_;try simp only [ak];refine cH hQ 10 hHeld ?_;try simp only [ak];refine cH hQ 11 hHeld ?_;try simp only [ak];refine cH hQ 12 hHeld ?_;try simp only [ak];refine cH hQ 13 hHeld ?_;try simp only [ak];refine cH hQ 14 hHeld ?_;try simp only [ak];refine cH hQ 15 hHeld ?_;try simp only [ak];refine cH hQ 16 hHeld ?_;try simp only [ak];refine Gr (i:=17) rfl rfl (by kernel_rfl) (fun K hK=>?_);go_simp;refine (H2.o _ cU.o).mono ?_;rintro e w2 ⟨p2,c2',rfl,hb2⟩;have cm:=aa hb2;clear hb2;refine hK.o _ _ (HS.o _ cm.o) ?_;clear hK K hHeld;have hHeld:=HS.o _ cm.o;refine cH hQ 18 hHeld ?_;try simp only [ak];refine cH hQ 19 hHeld ?_;try simp only [ak];refine cH hQ 20 hHeld ?_;try simp only [ak];refine cH hQ 21 hHeld ?_;try simp only [ak];refine cH hQ 22 hHeld ?_;try simp only [ak];refine cH hQ 23 hHeld ?_;try simp only [ak];refine cH hQ 24 hHeld ?_;try simp only [ak];cases PE:tag.toList.isEmpty with
 | true =>
  have HTE:=aa PE;cases cl with
  | true =>
   obtain rfl:lx=0:=Oz.o rfl;have Kh:=Oy.o;subst Kh;clear Oy Oz H3;refine cz hQ 25 hHeld ?_;try simp only [ak];refine cz hQ 26 hHeld ?_;try simp only [ak];refine cH hQ 27 hHeld ?_;try simp only [ak];refine cH hQ 28 hHeld ?_;try simp only [ak];refine cH hQ 29 hHeld ?_;try simp only [ak];refine cH hQ 30 hHeld ?_;try simp only [ak];refine cH hQ 31 hHeld ?_;try simp only [ak];refine cH hQ 32 hHeld ?_;try simp only [ak];refine cH hQ 33 hHeld ?_;try simp only [ak];refine cH hQ 34 hHeld ?_;try simp only [ak];refine cH hQ 35 hHeld ?_;try simp only [ak];refine cH hQ 36 hHeld ?_;try simp only [ak];refine cH hQ 37 hHeld ?_;try simp only [ak];refine cH hQ 38 hHeld ?_;try simp only [ak];refine cH hQ 39 hHeld ?_;try simp only [ak];refine cH hQ 40 hHeld ?_;try simp only [ak];refine cH hQ 41 hHeld ?_;try simp only [ak];refine cH hQ 42 hHeld ?_;try simp only [ak];refine cH hQ 43 hHeld ?_;try simp only [ak];refine cH hQ 44 hHeld ?_;try simp only [ak];refine cH hQ 45 hHeld ?_;try simp only [ak];refine cH hQ 46 hHeld ?_;try simp only [ak];refine cz hQ 47 hHeld ?_;try simp only [ak];refine cz hQ 48 hHeld ?_;try simp only [ak];refine cz hQ 49 hHeld ?_;try simp only [ak];refine cH hQ 50 hHeld ?_;try simp only [ak];refine cH hQ 51 hHeld ?_;try simp only [ak];refine cz hQ 52 hHeld ?_;try simp only [ak];refine cz hQ 53 hHeld ?_;try simp only [ak];refine cz hQ 54 hHeld ?_;try simp only [ak];refine cz hQ 55 hHeld ?_;try simp only [ak];refine cz hQ 56 hHeld ?_;try simp only [ak];refine cz hQ 57 hHeld ?_;try simp only [ak];refine cz hQ 58 hHeld ?_;try simp only [ak];refine cH hQ 59 hHeld ?_;try simp only [ak];refine cH hQ 60 hHeld ?_;try simp only [ak];refine aP (by kernel_rfl) rfl ?_;simp only [cQ,cL,km];exact HK.o w2 _ _ _ _ _ _ _ _ _ _ _ _ _ _ _ _ _ _ _ _ _ _ _ _ _ _ _ _ _ _ _ _ _ _ _ _ _ _ _ _ _ _ _ _ _ _ _ _ _ _ _ _ _ _ _ _ _ _ _ _ cm.o
  | false =>
   cases mi with
   | true =>
    obtain rfl:lx=0:=Oz.o rfl;have Kh:=Oy.o;subst Kh;clear Oy Oz H3;refine cH hQ 25 hHeld ?_;try simp only [ak];refine cH hQ 26 hHeld ?_;try simp only [ak];refine cH hQ 27 hHeld ?_;try simp only [ak];refine cH hQ 28 hHeld ?_;try simp only [ak];refine cH hQ 29 hHeld ?_;try simp only [ak];refine cH hQ 30 hHeld ?_;try simp only [ak];refine cH hQ 31 hHeld ?_;try simp only [ak];refine cH hQ 32 hHeld ?_;try simp only [ak];refine cH hQ 33 hHeld ?_;try simp only [ak];refine cH hQ 34 hHeld ?_;try simp only [ak];refine cH hQ 35 hHeld ?_;try simp only [ak];refine cH hQ 36 hHeld ?_;try simp only [ak];refine cH hQ 37 hHeld ?_;try simp only [ak];refine cH hQ 38 hHeld ?_;try simp only [ak];refine cH hQ 39 hHeld ?_;try simp only [ak];refine cH hQ 40 hHeld ?_;try simp only [ak];refine cH hQ 41 hHeld ?_;try simp only [ak];refine cH hQ 42 hHeld ?_;try simp only [ak];refine cH hQ 43 hHeld ?_;try simp only [ak];refine cH hQ 44 hHeld ?_;try simp only [ak];refine cH hQ 45 hHeld ?_;try simp only [ak];refine cH hQ 46 hHeld ?_;try simp only [ak];refine cH hQ 47 hHeld ?_;try simp only [ak];refine cH hQ 48 hHeld ?_;try simp only [ak];refine cH hQ 49 hHeld ?_;try simp only [ak];refine cH hQ 50 hHeld ?_;try simp only [ak];refine cH hQ 51 hHeld ?_;try simp only [ak];refine cz hQ 52 hHeld ?_;try simp only [ak];refine cz hQ 53 hHeld ?_;try simp only [ak];refine cz hQ 54 hHeld ?_;try simp only [ak];refine cz hQ 55 hHeld ?_;try simp only [ak];refine cz hQ 56 hHeld ?_;try simp only [ak];refine cz hQ 57 hHeld ?_;try simp only [ak];refine cz hQ 58 hHeld ?_;try simp only [ak];refine cH hQ 59 hHeld ?_;try simp only [ak];refine cH hQ 60 hHeld ?_;try simp only [ak];refine aP (by kernel_rfl) rfl ?_;simp only [cQ,cL,km];exact HK.o w2 _ _ _ _ _ _ _ _ _ _ _ _ _ _ _ _ _ _ _ _ _ _ _ _ _ _ _ _ _ _ _ _ _ _ _ _ _ _ _ _ _ _ _ _ _ _ _ _ _ _ _ _ _ _ _ _ _ _ _ _ cm.o
   | false =>
    refine cH hQ 25 hHeld ?_;try simp only [ak];refine cH hQ 26 hHeld ?_;try simp only [ak];refine cH hQ 27 hHeld ?_;try simp only [ak];refine cH hQ 28 hHeld ?_;try simp only [ak];refine cz hQ 29 hHeld ?_;try simp only [ak];refine cz hQ 30 hHeld ?_;try simp only [ak];refine cz hQ 31 hHeld ?_;try simp only [ak];refine cz hQ 32 hHeld ?_;try simp only [ak];refine cz hQ 33 hHeld ?_;try simp only [ak];refine cz hQ 34 hHeld ?_;try simp only [ak];refine cH hQ 35 hHeld ?_;try simp only [ak];refine cH hQ 36 hHeld ?_;try simp only [ak];refine cH hQ 37 hHeld ?_;try simp only [ak];refine cH hQ 38 hHeld ?_;try simp only [ak];refine cH hQ 39 hHeld ?_;try simp only [ak];refine cH hQ 40 hHeld ?_;try simp only [ak];refine cH hQ 41 hHeld ?_;try simp only [ak];refine cH hQ 42 hHeld ?_;try simp only [ak];refine cH hQ 43 hHeld ?_;try simp only [ak];refine cH hQ 44 hHeld ?_;try simp only [ak];refine cH hQ 45 hHeld ?_;try simp only [ak];refine cH hQ 46 hHeld ?_;try simp only [ak];refine cH hQ 47 hHeld ?_;try simp only [ak];refine cH hQ 48 hHeld ?_;try simp only [ak];refine cH hQ 49 hHeld ?_;try simp only [ak];refine cH hQ 50 hHeld ?_;try simp only [ak];refine cH hQ 51 hHeld ?_;try simp only [ak];refine cH hQ 52 hHeld ?_;try simp only [ak];refine cH hQ 53 hHeld ?_;try simp only [ak];refine cH hQ 54 hHeld ?_;try simp only [ak];refine cH hQ 55 hHeld ?_;try simp only [ak];refine cH hQ 56 hHeld ?_;try simp only [ak];refine Gr (i:=57) rfl rfl (by kernel_rfl) (fun K hK=>?_);go_simp;refine (H3.o rfl rfl HTE.o _ cm.o).mono ?_;rintro e w3 ⟨rfl,hb3⟩;have cJ:=aa hb3;clear hb3;refine hK.o _ _ (HS.o _ cJ.o) ?_;clear hK K hHeld;have hHeld:=HS.o _ cJ.o;refine cH hQ 58 hHeld ?_;try simp only [ak];refine cH hQ 59 hHeld ?_;try simp only [ak];refine cH hQ 60 hHeld ?_;try simp only [ak];refine aP (by kernel_rfl) rfl ?_;simp only [cQ,cL,km];exact HK.o w3 _ _ _ _ _ _ _ _ _ _ _ _ _ _ _ _ _ _ _ _ _ _ _ _ _ _ _ _ _ _ _ _ _ _ _ _ _ _ _ _ _ _ _ _ _ _ _ _ _ _ _ _ _ _ _ _ _ _ _ _ cJ.o
 | false =>
  cases cl with
  | true =>
   obtain rfl:lx=0:=Oz.o rfl;have Kh:=Oy.o;subst Kh;clear Oy Oz H3;refine cz hQ 25 hHeld ?_;try simp only [ak];refine cz hQ 26 hHeld ?_;try simp only [ak];refine cH hQ 27 hHeld ?_;try simp only [ak];refine cH hQ 28 hHeld ?_;try simp only [ak];refine cH hQ 29 hHeld ?_;try simp only [ak];refine cH hQ 30 hHeld ?_;try simp only [ak];refine cH hQ 31 hHeld ?_;try simp only [ak];refine cH hQ 32 hHeld ?_;try simp only [ak];refine cH hQ 33 hHeld ?_;try simp only [ak];refine cH hQ 34 hHeld ?_;try simp only [ak];refine cH hQ 35 hHeld ?_;try simp only [ak];refine cH hQ 36 hHeld ?_;try simp only [ak];refine cH hQ 37 hHeld ?_;try simp only [ak];refine cH hQ 38 hHeld ?_;try simp only [ak];refine cH hQ 39 hHeld ?_;try simp only [ak];refine cH hQ 40 hHeld ?_;try simp only [ak];refine cH hQ 41 hHeld ?_;try simp only [ak];refine cz hQ 42 hHeld ?_;try simp only [ak];refine cz hQ 43 hHeld ?_;try simp only [ak];refine cz hQ 44 hHeld ?_;try simp only [ak];refine cH hQ 45 hHeld ?_;try simp only [ak];refine cH hQ 46 hHeld ?_;try simp only [ak];refine cz hQ 47 hHeld ?_;try simp only [ak];refine cz hQ 48 hHeld ?_;try simp only [ak];refine cz hQ 49 hHeld ?_;try simp only [ak];refine cH hQ 50 hHeld ?_;try simp only [ak];refine cH hQ 51 hHeld ?_;try simp only [ak];refine cz hQ 52 hHeld ?_;try simp only [ak];refine cz hQ 53 hHeld ?_;try simp only [ak];refine cz hQ 54 hHeld ?_;try simp only [ak];refine cz hQ 55 hHeld ?_;try simp only [ak];refine cz hQ 56 hHeld ?_;try simp only [ak];refine cz hQ 57 hHeld ?_;try simp only [ak];refine cz hQ 58 hHeld ?_;try simp only [ak];refine cH hQ 59 hHeld ?_;try simp only [ak];refine cH hQ 60 hHeld ?_;try simp only [ak];refine aP (by kernel_rfl) rfl ?_;simp only [cQ,cL,km];exact HK.o w2 _ _ _ _ _ _ _ _ _ _ _ _ _ _ _ _ _ _ _ _ _ _ _ _ _ _ _ _ _ _ _ _ _ _ _ _ _ _ _ _ _ _ _ _ _ _ _ _ _ _ _ _ _ _ _ _ _ _ _ _ cm.o
  | false =>
   cases mi with
   | true =>
    obtain rfl:lx=0:=Oz.o rfl;have Kh:=Oy.o;subst Kh;clear Oy Oz H3;refine cH hQ 25 hHeld ?_;try simp only [ak];refine cH hQ 26 hHeld ?_;try simp only [ak];refine cH hQ 27 hHeld ?_;try simp only [ak];refine cH hQ 28 hHeld ?_;try simp only [ak];refine cH hQ 29 hHeld ?_;try simp only [ak];refine cH hQ 30 hHeld ?_;try simp only [ak];refine cH hQ 31 hHeld ?_;try simp only [ak];refine cH hQ 32 hHeld ?_;try simp only [ak];refine cH hQ 33 hHeld ?_;try simp only [ak];refine cH hQ 34 hHeld ?_;try simp only [ak];refine cH hQ 35 hHeld ?_;try simp only [ak];refine cH hQ 36 hHeld ?_;try simp only [ak];refine cH hQ 37 hHeld ?_;try simp only [ak];refine cH hQ 38 hHeld ?_;try simp only [ak];refine cH hQ 39 hHeld ?_;try simp only [ak];refine cH hQ 40 hHeld ?_;try simp only [ak];refine cH hQ 41 hHeld ?_;try simp only [ak];refine cz hQ 42 hHeld ?_;try simp only [ak];refine cz hQ 43 hHeld ?_;try simp only [ak];refine cz hQ 44 hHeld ?_;try simp only [ak];refine cH hQ 45 hHeld ?_;try simp only [ak];refine cH hQ 46 hHeld ?_;try simp only [ak];refine cz hQ 47 hHeld ?_;try simp only [ak];refine cz hQ 48 hHeld ?_;try simp only [ak];refine cz hQ 49 hHeld ?_;try simp only [ak];refine cH hQ 50 hHeld ?_;try simp only [ak];refine cH hQ 51 hHeld ?_;try simp only [ak];refine cz hQ 52 hHeld ?_;try simp only [ak];refine cz hQ 53 hHeld ?_;try simp only [ak];refine cz hQ 54 hHeld ?_;try simp only [ak];refine cz hQ 55 hHeld ?_;try simp only [ak];refine cz hQ 56 hHeld ?_;try simp only [ak];refine cz hQ 57 hHeld ?_;try simp only [ak];refine cz hQ 58 hHeld ?_;try simp only [ak];refine cH hQ 59 hHeld ?_;try simp only [ak];refine cH hQ 60 hHeld ?_;try simp only [ak];refine aP (by kernel_rfl) rfl ?_;simp only [cQ,cL,km];exact HK.o w2 _ _ _ _ _ _ _ _ _ _ _ _ _ _ _ _ _ _ _ _ _ _ _ _ _ _ _ _ _ _ _ _ _ _ _ _ _ _ _ _ _ _ _ _ _ _ _ _ _ _ _ _ _ _ _ _ _ _ _ _ cm.o
   | false =>
    refine cH hQ 25 hHeld ?_;try simp only [ak];refine cH hQ 26 hHeld ?_;try simp only [ak];refine cH hQ 27 hHeld ?_;try simp only [ak];refine cH hQ 28 hHeld ?_;try simp only [ak];refine cz hQ 29 hHeld ?_;try simp only [ak];refine cz hQ 30 hHeld ?_;try simp only [ak];refine cz hQ 31 hHeld ?_;try simp only [ak];refine cz hQ 32 hHeld ?_;try simp only [ak];refine cz hQ 33 hHeld ?_;try simp only [ak];refine cz hQ 34 hHeld ?_;try simp only [ak];refine cH hQ 35 hHeld ?_;try simp only [ak];refine cH hQ 36 hHeld ?_;try simp only [ak];refine cH hQ 37 hHeld ?_;try simp only [ak];refine cH hQ 38 hHeld ?_;try simp only [ak];refine cH hQ 39 hHeld ?_;try simp only [ak];refine cH hQ 40 hHeld ?_;try simp only [ak];refine cH hQ 41 hHeld ?_;try simp only [ak];refine cz hQ 42 hHeld ?_;try simp only [ak];refine cz hQ 43 hHeld ?_;try simp only [ak];refine cz hQ 44 hHeld ?_;try simp only [ak];refine cH hQ 45 hHeld ?_;try simp only [ak];refine cH hQ 46 hHeld ?_;try simp only [ak];refine cz hQ 47 hHeld ?_;try simp only [ak];refine cz hQ 48 hHeld ?_;try simp only [ak];refine cz hQ 49 hHeld ?_;try simp only [ak];refine cH hQ 50 hHeld ?_;try simp only [ak];refine cH hQ 51 hHeld ?_;try simp only [ak];refine cz hQ 52 hHeld ?_;try simp only [ak];refine cz hQ 53 hHeld ?_;try simp only [ak];refine cz hQ 54 hHeld ?_;try simp only [ak];refine cz hQ 55 hHeld ?_;try simp only [ak];refine cz hQ 56 hHeld ?_;try simp only [ak];refine cz hQ 57 hHeld ?_;try simp only [ak];refine cz hQ 58 hHeld ?_;try simp only [ak];refine cH hQ 59 hHeld ?_;try simp only [ak];refine cH hQ 60 hHeld ?_;try simp only [ak];refine aP (by kernel_rfl) rfl ?_;simp only [cQ,cL,km];exact HK.o w2 _ _ _ _ _ _ _ _ _ _ _ _ _ _ _ _ _ _ _ _ _ _ _ _ _ _ _ _ _ _ _ _ _ _ _ _ _ _ _ _ _ _ _ _ _ _ _ _ _ _ _ _ _ _ _ _ _ _ _ _ cm.o
end Go.Proofs.YtjdfihglehfelaaGreatDoor
