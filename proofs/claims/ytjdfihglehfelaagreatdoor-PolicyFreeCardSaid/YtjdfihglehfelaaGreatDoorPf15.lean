/- Lemmas: RanB, SpD. -/
import Derived.Test.YtjdfihglehfelaaGreatDoorPf14
set_option maxRecDepth 100000
set_option maxHeartbeats 32000000
set_option linter.all false
namespace Go.Proofs.YtjdfihglehfelaaGreatDoor
open Go.Proofs.Tryz
open Go.RowKit Go.Sort
theorem AR (l:List (Int × Int))(v:Value)(w:World)(hr:xo w v l)(hlen:l.length<=100000000) :
  Calls prog 203 #[v] w fun e w'=>∃ v',e=.returned v'/\bM w' w.heap.size v' l/\Below w.heap.size w w':=by
 obtain ⟨p,cap,rfl,hlc,ij,hp⟩:=hr;cases p with
 | none =>
  have hl:l=[]:=by
   cases l with
   | nil=>rfl
   | cons a l=>obtain ⟨b,off,e,_⟩:=hp (by simp);cases e
  subst hl;refine (AnyE.slices_Clone_nil Tryz.cloneR _ _ w).mono ?_;rintro e w' ⟨rfl,rfl⟩;exact ⟨_,rfl,bM.nil _ _,bj _ _⟩
 | some a =>
  by_cases h0:0<l.length
  ·obtain ⟨b,off,e,hb,hc⟩:=hp h0
   cases e
   obtain ⟨i0,hi,hz0,hz1,hz2⟩:=ei DT;refine (AnyE.slices_Clone Tryz.cloneR i0 _ 2 16 hi hz0 hz1 hz2 rfl (by decide) Tryz.sizeOf62 b off l.length cap (bU l) w (dx l) (by unfold maxLen;omega) (by omega) (fun j u hu=>?_) (qI l)).mono ?_
   ·have hj:j<l.length*2:=by rw [<- dx];exact (List.getElem?_eq_some_iff.1 hu).1
    obtain ⟨p,hp⟩:=De l (j / 2) (by omega);have h1:=kr l (j / 2) p hp;have h2:=hc (j / 2) p hp;rcases Nat.mod_two_eq_zero_or_one j with hm | hm
    ·have e:j / 2*2=j:=by omega
     rw [e] at h1 h2;rw [h1.1] at hu;rw [h2.1,hu]
    ·have e:j / 2*2+1=j:=by omega
     rw [e] at h1;rw [h1.2] at hu;rw [<- hu,<- h2.2,Nat.add_assoc,e]
   ·rintro e w' ⟨v',rfl,ho,_,hb'⟩
    exact ⟨v',rfl,ho,hb'⟩
  ·have hl:l=[]:=fX (by omega)
   subst hl;have q22:∀ (w:World) (a:Option Addr) (n c n' c':Nat),(binOp .eql 48 (.slice a n c) (.slice none n' c')).run prog w=.ok (.bool a.isNone) w:=fun w a n c n' c'=>Cl w _ _ a n c n' c' underlying48;show Calls prog _ #[.slice (some a) 0 cap] w _;go_enter func203,ntmps203;go_wp2;go_ret;refine ⟨_,rfl,?_,(bj _ _).alloc (bk _) _⟩;exact World.ownsRow_made w #[] 0 (bk _) (by unfold maxLen;omega) rfl
theorem vY (x y:Int × Int)(W:World):Calls prog 205 #[.agg #[.int .i64 x.1,.int .i64 x.2],.agg #[.int .i64 y.1,.int .i64 y.2]] W fun e w'=>e=.returned (.int .i64 (Lib.compareInt x.1 y.1))/\∃ q os',w'=grow (W.drewN q) os':=by
 have hcon:=fun W'=>Any.cmp_Compare_int Tryz.lays122 x.1 y.1 W';change ∀ W',Calls prog 206 _ _ _ at hcon;generalize Lib.compareInt x.1 y.1=r at hcon ⊢;go_enter func205,ntmps205
 go_wp2_with (go_at_call 206;refine (hcon _).mono ?_;rintro e w' ⟨rfl,rfl⟩)
 go_ret;exact ⟨rfl,0,_,by rw [alloc_eq_grow,alloc_eq_grow,grow_grow];rfl⟩
theorem xU (blk off size:Nat)(w:World):CmpLays prog 205 #[] encR 2 (fun x y=>Lib.compareInt x.1 y.1) blk off size w :=
 fun _ _ _ _ x y=>vY x y _
theorem E5 (x y:Int × Int):ltOf (fun x y:Int × Int=>Lib.compareInt x.1 y.1) x y=decide (x.1<y.1):=by
 unfold ltOf Lib.compareInt
 by_cases h1:x.1<y.1
 ·simp [h1]
 ·by_cases h2:y.1<x.1 <;> simp [h1,h2]
theorem FP:SWO (ltOf fun x y:Int × Int=>Lib.compareInt x.1 y.1) where
 irrefl x:=by rw [E5];simp
 trans x y z h1 h2:=by rw [E5] at *;simp at *;omega
 ntrans x y z h1 h2:=by rw [E5] at *;simp at *;omega
theorem DL (B:Nat)(l:List (Int × Int))(v:Value)(w:World)(ho:bM w B v l)(hlen:l.length<=100000000) :
  Calls prog 204 #[v,.func (.func 205) #[] #[]] w fun e w'=>e=.returned (.tuple #[])/\∃ s,s.Perm l/\(s.Pairwise fun p q=>p.1<=q.1)/\bM w' B v s/\Below B w w':=by
 by_cases h0:0<l.length
 ·obtain ⟨g,cap,rfl,hB,hg,hc,hH⟩:=ho.holds h0
  have eg:∀ args w,(callFunc 205 args).run prog w=.ok (.enter 205 args) w:=enters_of func205 (by kernel_rfl) rfl;have hcon:=AnyQ.slices_SortFunc Tryz.sortR 2 Tryz.isAgg62 Tryz.sizeOf62 encR (fun _=>rfl) (fun x v hv=>by simp [encR] at hv;rcases hv with rfl | rfl <;> rfl) (fun x y=>Lib.compareInt x.1 y.1) FP 205 #[] g 0 cap l.toArray w eg (xU g 0 l.toArray.size w) hH hg (by simp;omega)
  change Calls prog 204 _ _ _ at hcon;refine hcon.mono ?_;rintro e w' ⟨rfl,d',n,os,hp,hs,rfl⟩;obtain ⟨a,b,c⟩:=xV l d' hp hs;have:=bM.sorted (n:=n) (os:=os) ho b;exact ⟨rfl,d'.toList,a,c,this.1,this.2⟩
 ·have hl:l=[]:=fX (by omega)
  subst hl;obtain ⟨p,cap,rfl,_⟩:=ho.rd;refine (AnyF.slices_SortFunc_none Tryz.sortR p cap _ w).mono ?_;rintro e w' ⟨rfl,rfl⟩;exact ⟨rfl,[],List.Perm.refl _,List.Pairwise.nil,ho,bj _ _⟩
def FK (w:World)(S:Int->Prop)(N:Nat)(e:Ending)(w':World):Prop :=
 ∃ v x,e=.returned v/\bM w' w.heap.size v x/\iE x S/\x.length<=N/\Below w.heap.size w w'
theorem iF {l:List (Int × Int)}(h:dI l=true):∀ p∈l,0<=p.1/\0<=p.2/\p.1+p.2<=1073741824:=fun p hp=>by
 unfold dI at h;have:=En (List.all_eq_true.1 h p hp);omega
theorem sI (o:List (Int × Int))(r:Int × Int):(cZ o r).length<=o.length+1:=by
 unfold cZ;split
 ·omega
 ·split
  ·simp
  ·split
   ·simp only [cD,List.length_dropLast,A4];omega
   ·simp
theorem tF (l:List (Int × Int))(k:Nat)(hk:k<=l.length):(merge (l.take k)).length<=k:=by
 induction k with
 | zero=>simp [merge]
 | succ k ih =>
  obtain ⟨x,hx⟩:=aj l k (by omega);rw [take_snoc' l k x hx,fQ];have:=sI (merge (l.take k)) x;have:=ih (by omega);omega
theorem uS (M:Int)(o:List (Int × Int))(r:Int × Int)(ho:∀ p∈o,0<=p.1/\0<=p.2/\p.1+p.2<=M)(hr:0<=r.1/\0<=r.2/\r.1+r.2<=M):∀ p∈cZ o r,0<=p.1/\0<=p.2/\p.1+p.2<=M:=by
 intro p hp;unfold cZ at hp;split at hp
 ·exact ho p hp
 ·split at hp
  ·rcases List.mem_append.1 hp with hp | hp
   ·exact ho p hp
   ·simp at hp;subst hp;exact hr
  ·rename_i q hq
   have hqm:=ho q (List.mem_of_getLast? hq);split at hp
   ·rcases List.mem_append.1 hp with hp | hp
    ·exact ho p (List.dropLast_subset o hp)
    ·simp at hp;subst hp;simp only [];omega
   ·rcases List.mem_append.1 hp with hp | hp
    ·exact ho p hp
    ·simp at hp;subst hp;exact hr
theorem CL (M:Int)(l:List (Int × Int))(h:∀ p∈l,0<=p.1/\0<=p.2/\p.1+p.2<=M)(k:Nat)(hk:k<=l.length):∀ p∈merge (l.take k),0<=p.1/\0<=p.2/\p.1+p.2<=M:=by
 induction k with
 | zero=>simp [merge]
 | succ k ih =>
  obtain ⟨x,hx⟩:=aj l k (by omega);rw [take_snoc' l k x hx,fQ];exact uS M _ x (ih (by omega)) (h x (ct hx))
theorem zC (s:List (Int × Int))(k:Nat)(x:Int × Int)(hx:s[k]?=some x)(h0:x.2=0):merge (s.take (k+1))=merge (s.take k):=by
 rw [take_snoc' s k x hx,fQ];unfold cZ;rw [aw h0]
theorem vZ (s:List (Int × Int))(k:Nat)(x:Int × Int)(hx:s[k]?=some x)(h0:x.2≠0)(ho:merge (s.take k)=[]):merge (s.take (k+1))=merge (s.take k)++[x]:=by
 rw [take_snoc' s k x hx,fQ];unfold cZ;rw [bh h0,ho];rfl
theorem wy (s:List (Int × Int))(k:Nat)(x:Int × Int)(hx:s[k]?=some x)(h0:x.2≠0)(i:List (Int × Int))(q:Int × Int)(ho:merge (s.take k)=i++[q])(hq:¬ x.1<=q.1+q.2):merge (s.take (k+1))=i++[q]++[x]:=by
 rw [take_snoc' s k x hx,fQ];unfold cZ;rw [bh h0,ho];simp [hq]
theorem yK (s:List (Int × Int))(k:Nat)(x:Int × Int)(hx:s[k]?=some x)(h0:x.2≠0)(i:List (Int × Int))(q:Int × Int)(ho:merge (s.take k)=i++[q])(hq:x.1<=q.1+q.2):merge (s.take (k+1))=i++[(q.1,max q.2 (x.1+x.2 - q.1))]:=by
 rw [take_snoc' s k x hx,fQ];unfold cZ;rw [bh h0,ho];simp [hq]
theorem jJ (l:List (Int × Int))(v:Value)(w:World)(hr:xo w v l)(hval:dI l=true)(hlen:l.length<=10000000) :
  Calls prog 167 #[v] w (FK w (Mem l) l.length):=by
 have HV:=aa hval;clear hval;go_enter func167,ntmps167
 go_wp2_with fail
 refine (AR l v w hr (by omega)).mono ?_;rintro e w1 ⟨v1,rfl,ho1,hb1⟩
 go_wp2_with fail
 refine (DL w.heap.size l v1 w1 ho1 (by omega)).mono ?_;rintro e w2 ⟨rfl,s,hp,hs,ho2,hb2⟩;have hb02:Below w.heap.size w w2:=hb1.trans hb2;have GF:s.length=l.length:=hp.length_eq;have HP:=aa hp;have HS:=aa hs;have HL:=aa GF;have hsn:s.length<=10000000:=by omega
 clear hp hs GF;obtain ⟨p2,cap2,rfl,hlc2,Km,hp2⟩:=ho2.rd;clear ho1 ho2 hb1 hb2 hr;go_wp2
 go_loopw [4,14] (fun vo i wr=>∃ k:Nat,k<=s.length/\i=.int .i64 k/\bM wr w2.heap.size vo (merge (s.take k))/\Below w2.heap.size w2 wr) (fun _ i _=>s.length - (intOf i).toNat)
 case atStart=>exact ⟨0,cg _,rfl,bM.nil _ _,bj _ _⟩
 case round =>
  obtain ⟨k,hk,rfl,hown,hb⟩:=hrel
  by_cases hlt:k<s.length
  ·obtain ⟨x,hx⟩:=aj s k hlt
   obtain ⟨b,off,rfl,gO,hc⟩:=hp2 (by omega);have hcc:=(hc.below hb gO) k x hx;have hc1:=hcc.1;have hc2:=hcc.2;have cX:b<wr.heap.size:=cC gO hb.size;have pB:=iF HV.o x (HP.o.mem_iff.1 (ct hx));obtain ⟨hx0,hx1,hx2⟩:=pB;have Jp:=CL 1073741824 s (fun p hp=>iF HV.o p (HP.o.mem_iff.1 hp)) k hk;have JV:=tF s k hk;have HX:=aa hx;clear hc hp2 hcc hx;obtain ⟨o,ho⟩:∃ o,o=merge (s.take k):=⟨_,rfl⟩;rw [<- ho] at hown Jp JV;have HO:=aa ho;clear ho
   by_cases h0:x.2=0
   ·have h0':(x.2 == 0)=true:=by simp [h0]
    have H0:=aa h0;clear h0;go_wp2;go_roundw
    case rel=>exact ⟨k+1,by omega,by go_num,by rw [zC s k x HX.o H0.o,<- HO.o];exact hown.alloc _,hb.alloc hb.size _⟩
    case measure=>simp [intOf];omega
   ·have h0':(x.2 == 0)=false:=by simp [h0]
    have H0:=aa h0;clear h0;rcases List.eq_nil_or_concat o with rfl | ⟨i,q,rfl⟩
    ·obtain ⟨p3,cap3,rfl,_,_,_⟩:=hown.rd
     go_wp2;go_quiet (fail)
     go_wp2_with (at_builtin;refine jg rfl _ _ rfl w2.heap.size _ [] x rfl ?c1 (wr.heap.size+1) 1 rfl ?c2 ?c3 (by simp) ?c4 ?_)
     case c1=>refine hown.below ?_;(repeat' (first | exact bj _ _ | exact bk _ | (refine dT ?_ ?_ _) | (refine aT ?_ _) | (refine ee ?_) | (simp;done) | (simp;omega)))
     case c2=>go_simp
     case c3=>go_simp
     case c4=>have:=hb.size;simp;omega
     intro v4 w4 ho4 hb4 _;have hb5:RowKit.Below w2.heap.size w2 w4:=(hb.trans (by refine RowKit.Below.mono (B:=wr.heap.size) ?_ hb.size;(repeat' (first | exact bj _ _ | exact bk _ | (refine dT ?_ ?_ _) | (refine aT ?_ _) | (refine ee ?_) | (simp;done) | (simp;omega))))).trans hb4;go_wp2;go_roundw
     case rel=>exact ⟨k+1,by omega,by go_num,by rw [vZ s k x HX.o H0.o HO.o.symm,<- HO.o];exact ho4,hb5⟩
     case measure=>simp [intOf];omega
    ·simp only [List.concat_eq_append] at *
     have hq:=Jp q (by simp);obtain ⟨hq0,hq1,hq2⟩:=hq;clear Jp;obtain ⟨g,cap3,rfl,TR,ye,hgc,KA,Vq,Vr,Yi,hst⟩:=hown.last;have hlen1:i.length+1<=k:=by simpa using JV
     clear JV
     by_cases hle:x.1<=q.1+q.2
     ·go_wp2
      go_quiet (fail);go_wp2
      (refine il 21 (by kernel_rfl) (by kernel_rfl) ?_;simp only [xi,iv,cQ,cL];(repeat (go_big_quiet_step (fail)));(with_reducible refine fR ?_);intro wq ia;obtain ⟨nq,ia⟩:=ia;subst ia)
      go_wp2;go_roundw
      case rel =>
       refine ⟨k+1,by omega,by go_num,?_,?_⟩
       ·rw [yK s k x HX.o H0.o i q HO.o.symm hle]
        refine bM.setLast ?_ _;refine hown.below ?_
        (repeat' (first | exact bj _ _ | exact bk _ | (refine dT ?_ ?_ _) | (refine aT ?_ _) | (refine ee ?_) | (simp;done) | (simp;omega)))
       ·refine RowKit.Below.setCell ?_ (by exact TR) _
        refine hb.trans ?_;refine RowKit.Below.mono (B:=wr.heap.size) ?_ hb.size
        (repeat' (first | exact bj _ _ | exact bk _ | (refine dT ?_ ?_ _) | (refine aT ?_ _) | (refine ee ?_) | (simp;done) | (simp;omega)))
      case measure=>simp [intOf];omega
     ·have hle':decide (x.1<=q.1+q.2)=false:=by simp;omega
      go_wp2;go_quiet (fail)
      go_wp2_with (at_builtin;refine jg rfl _ _ rfl w2.heap.size _ (i++[q]) x rfl ?c1 (wr.heap.size+1) 1 rfl ?c2 ?c3 (by simp;omega) ?c4 ?_)
      case c1=>refine hown.below ?_;(repeat' (first | exact bj _ _ | exact bk _ | (refine dT ?_ ?_ _) | (refine aT ?_ _) | (refine ee ?_) | (simp;done) | (simp;omega)))
      case c2=>go_simp
      case c3=>go_simp
      case c4=>have:=hb.size;simp;omega
      intro v4 w4 ho4 hb4 _;have hb5:RowKit.Below w2.heap.size w2 w4:=(hb.trans (by refine RowKit.Below.mono (B:=wr.heap.size) ?_ hb.size;(repeat' (first | exact bj _ _ | exact bk _ | (refine dT ?_ ?_ _) | (refine aT ?_ _) | (refine ee ?_) | (simp;done) | (simp;omega))))).trans hb4;go_wp2;go_roundw
      case rel=>exact ⟨k+1,by omega,by go_num,by rw [wy s k x HX.o H0.o i q HO.o.symm (by omega)];simpa using ho4,hb5⟩
      case measure=>simp [intOf];omega
  ·go_wp2
   go_ret;have JU:k=s.length:=by omega
   subst JU;rw [cI] at hown;refine ⟨_,_,rfl,hown.mono hb02.size,zL l s HP.o HS.o (fun p hp=>(iF HV.o p hp).2.1),?_,hb02.trans (hb.mono hb02.size)⟩;have:=tF s s.length (bk _);rw [cI] at this;have:=HL.o;omega
theorem yJ {ok:Nat->Prop}(l:List ByteArray)(v:Value)(w:World)(hr:ck aF 1 ok w [v] l)(hlen:l.length<=100000000) :
  Calls prog 103 #[v] w fun e w'=>∃ p n c,e=.returned (.slice p n c)/\Below w.heap.size w w':=by
 obtain ⟨p,cap,e,hlc,ij,hp⟩:=hr;obtain rfl:=List.singleton_inj.1 e;clear e;cases p with
 | none =>
  have hl:l=[]:=by
   cases l with
   | nil=>rfl
   | cons a l=>obtain ⟨b,off,e,_⟩:=hp (by simp);cases e
  subst hl;refine (AnyE.slices_Clone_nil Tryz.cloneS _ _ w).mono ?_;rintro e w' ⟨rfl,rfl⟩;exact ⟨_,_,_,rfl,bj _ _⟩
 | some a =>
  by_cases h0:0<l.length
  ·obtain ⟨b,off,e,hb,_,hc⟩:=hp h0
   cases e
   obtain ⟨i0,hi,hz0,hz1,hz2⟩:=ei o5;refine (AnyE.slices_Clone Tryz.cloneS i0 _ 1 16 hi hz0 hz1 hz2 rfl (by decide) Tryz.sizeOf9 b off l.length cap (l.map Value.string) w (by simp) (by unfold maxLen;omega) (by omega) (fun j u hu=>?_) (by simp [Value.oneCell'])).mono ?_
   ·rw [rI] at hu
    obtain ⟨x,hx,rfl⟩:=Option.map_eq_some_iff.1 hu;obtain ⟨u,hu1,hu2,hu3⟩:=hc j x hx;obtain rfl:u=[.string x]:=hu2;have:=hu3 0 _ rfl;simpa using this
   ·rintro e w' ⟨v',rfl,ho,_,hb'⟩
    rcases ho.2 with ⟨rfl,_⟩ | ⟨g,c,cur,rfl,_⟩
    ·exact ⟨_,_,_,rfl,hb'⟩
    ·exact ⟨_,_,_,rfl,hb'⟩
  ·have hl:l=[]:=fX (by omega)
   subst hl;have q22:∀ (w:World) (a:Option Addr) (n c n' c':Nat),(binOp .eql 26 (.slice a n c) (.slice none n' c')).run prog w=.ok (.bool a.isNone) w:=fun w a n c n' c'=>Cl w _ _ a n c n' c' underlying26;show Calls prog _ #[.slice (some a) 0 cap] w _;go_enter func103,ntmps103;go_wp2;go_ret;exact ⟨_,_,_,rfl,(bj _ _).alloc (bk _) _⟩
theorem jI {a b:ByteArray}(h:¬ a=b):(a.toList == b.toList)=false:=by
 rw [A6,A6];obtain ⟨⟨x⟩⟩:=a;obtain ⟨⟨y⟩⟩:=b;simp only [beq_eq_false_iff_ne];exact fun e=>h (by rw [show x=y from e])
theorem ui {Gb:List az}{nm:ByteArray}(h:∀ (j:Nat) (D:az),j<Gb.length->Gb[j]?=some D->¬ D.name=nm):Gb.find? (fun D=>decide (D.name=nm))=none:=by
 rw [List.find?_eq_none];intro D hD;obtain ⟨j,hj⟩:=fc hD;simpa using h j D (List.getElem?_eq_some_iff.1 hj).1 hj
theorem pR:∀ {Gb:List az} {nm:ByteArray} {k:Nat} {D:az},(∀ (j:Nat) (E:az),j<k->Gb[j]?=some E->¬ E.name=nm)->Gb[k]?=some D->D.name=nm->Gb.find? (fun D=>decide (D.name=nm))=some D
 | [],_,_,_,_,h,_=>by simp at h
 | E :: l,nm,0,D,_,h,e=>by
  obtain rfl:E=D:=by simpa using h
  simp [e]
 | E :: l,nm,k+1,D,hno,h,e=>by
  have h0:¬ E.name=nm:=hno 0 E (by omega) rfl;rw [List.find?_cons_of_neg (by simpa using h0)];exact pR (k:=k) (fun j F hj hF=>hno (j+1) F (by omega) (by simpa using hF)) (by simpa using h) e
def bH (Gb:List az)(nm:ByteArray):Option az:=Gb.find? fun D=>decide (D.name=nm)
def FE (Gb:List az)(nm:ByteArray)(w:World)(e:Ending)(w':World):Prop:=Below w.heap.size w w' /\
 match bH Gb nm with
 | some D=>∃ p n c,e=.returned (.tuple #[.agg #[.string D.name,.int .u64 D.id,.int .i64 D.first,.int .i64 D.Gc,.bool D.closed,.bool D.missing,.slice p n c],.bool true])
 | none=>e=.returned (.tuple #[.agg #[.string ⟨#[]⟩,.int .u64 0,.int .i64 0,.int .i64 0,.bool false,.bool false,.slice none 0 0],.bool false])
theorem vV {ok:Nat->Prop}(name:ByteArray)(id seq ext nx:Int)(tp dp vp hp:Option Addr)(tl tc dc vl vc hl hc:Nat)(Gb:List az)(nm:ByteArray)(w:World)(hr:ck aO 7 ok w [.slice dp Gb.length dc] Gb)(hd:Gb.length<=1000)(ht:∀ D∈Gb,D.tags.length<=1000) :
  Calls prog 50 #[.agg #[.string name,.int .u64 id,.int .i64 seq,.int .i64 ext,.int .i64 nx,.slice tp tl tc,.slice dp Gb.length dc,.slice vp vl vc,.slice hp hl hc],.string nm] w (FE Gb nm w):=by
 have HR:=aa hr;clear hr;have HT:=aa ht;clear ht;go_enter func50,ntmps50;go_wp2
 go_loopw [11] (fun i wr=>∃ k:Nat,k<=Gb.length/\i=.int .i64 k/\(∀ j D,j<k->Gb[j]?=some D->¬ D.name=nm)/\Below w.heap.size w wr/\w.heap.size+1<wr.heap.size/\wr.heap[w.heap.size+1]?=some (.cells #[.string ⟨#[]⟩,.int .u64 0,.int .i64 0,.int .i64 0,.bool false,.bool false,.slice none 0 0] 47 (0,0))) (fun i _=>Gb.length - (intOf i).toNat)
 case atStart =>
  refine ⟨0,cg _,rfl,(fun j D hj=>by omega),((bj _ _).alloc (bk _) _).alloc (by simp) _,by simp,?_⟩;have:=b9 (w.alloc (.cells #[.string name,.int .u64 id,.int .i64 seq,.int .i64 ext,.int .i64 nx,.slice tp tl tc,.slice dp Gb.length dc,.slice vp vl vc,.slice hp hl hc] 31)) (.cells #[.string ⟨#[]⟩,.int .u64 0,.int .i64 0,.int .i64 0,.bool false,.bool false,.slice none 0 0] 47);rw [cW] at this;exact this
 case round =>
  obtain ⟨k,hk,rfl,hno,hB,hz,hR⟩:=hrel;have IW:=aa hno;clear hno;have r0:=cr hR 0 _ rfl
  by_cases hlt:k<Gb.length
  ·obtain ⟨D,hD⟩:=aj Gb k hlt
   obtain ⟨b,off,u,rfl,gR,cX,ez,sA,hcv⟩:=HR.o.elem hD;obtain ⟨tv,rfl,ew⟩:=sA;obtain ⟨tp',tc',rfl,_,_⟩:=ew.cap;have cT:wr.heap[b]?=w.heap[b]?:=hB.block b cX;have q0:=(cd (w:=w) (a:=⟨b,off+k*7,none⟩) cT).trans (hcv 0 _ rfl);have q1:=(cd (w:=w) (a:=⟨b,off+k*7+1,none⟩) cT).trans (hcv 1 _ rfl);have q2:=(cd (w:=w) (a:=⟨b,off+k*7+2,none⟩) cT).trans (hcv 2 _ rfl);have q3:=(cd (w:=w) (a:=⟨b,off+k*7+3,none⟩) cT).trans (hcv 3 _ rfl);have q4:=(cd (w:=w) (a:=⟨b,off+k*7+4,none⟩) cT).trans (hcv 4 _ rfl);have q5:=(cd (w:=w) (a:=⟨b,off+k*7+5,none⟩) cT).trans (hcv 5 _ rfl);have q6:=(cd (w:=w) (a:=⟨b,off+k*7+6,none⟩) cT).trans (hcv 6 _ rfl);have HD:=aa hD;clear hD;have Hx:=aa ew;clear ew;have yi:=aa hR;clear hR;clear hcv ez cT r0
   by_cases pD:D.name=nm
   ·have G2:=ae wr (.cells #[.string nm,.int .u64 D.id,.int .i64 D.first,.int .i64 D.Gc,.bool D.closed,.bool D.missing,.slice tp' D.tags.length tc'] 47)
    have Vs:=aa (b9 wr (.cells #[.string nm,.int .u64 D.id,.int .i64 D.first,.int .i64 D.Gc,.bool D.closed,.bool D.missing,.slice tp' D.tags.length tc'] 47));have MW:=aa ((G2.block _ hz).trans yi.o);have pL:=aa (hB.trans (G2.mono (by omega)));have Qf:Hid (wr.heap.size<(wr.alloc (.cells #[.string nm,.int .u64 D.id,.int .i64 D.first,.int .i64 D.Gc,.bool D.closed,.bool D.missing,.slice tp' D.tags.length tc'] 47)).heap.size):=aa (by simp);have nt:=HT.o D (ct HD.o);clear G2
    go_wp2_with fail
    generalize DA:wr.alloc _=WA at *;clear DA;refine (yJ (ok:=fun b=>ok b/\b<w.heap.size) D.tags _ _ ((ck.moves aF.moves).mv ⟨pL.o.size,fun b hb ho=>⟨⟨ho,hb⟩,pL.o.block b hb⟩⟩ Hx.o) (by omega)).mono ?_;rintro e w3 ⟨p3,n3,c3,rfl,hb3⟩;have hx:=(hb3.block _ Qf.o).trans Vs.o;have hr3:=(hb3.block _ (by have:=aq MW.o;omega)).trans MW.o
    have xL:=cr hx
    have rL:=cr hr3
    have x0:=xL 0 _ rfl;have r0:=rL 0 _ rfl;have x1:=xL 1 _ rfl;have r1:=rL 1 _ rfl;have x2:=xL 2 _ rfl;have r2:=rL 2 _ rfl;have x3:=xL 3 _ rfl;have r3:=rL 3 _ rfl;have x4:=xL 4 _ rfl;have r4:=rL 4 _ rfl;have x5:=xL 5 _ rfl;have r5:=rL 5 _ rfl;have x6:=xL 6 _ rfl;have r6:=rL 6 _ rfl;have xf:=sr hx
    have rf:=sr hr3
    have cJ:=aa (pL.o.trans (hb3.mono pL.o.size));clear xL rL hx hr3 hb3;have hne:¬ wr.heap.size=w.heap.size+1:=by omega
    have hne2:¬ w.heap.size+1=wr.heap.size:=by omega
    generalize N0:wr.heap.size=Bx at *;have K4:=aa pD;have Q8:=aa HD.o;go_wp2;refine eC (v:=.tuple #[.agg #[.string nm,.int .u64 D.id,.int .i64 D.first,.int .i64 D.Gc,.bool D.closed,.bool D.missing,.slice p3 n3 c3],.bool true]) (by simp [results,Tryz.results50,go_sem,r0,r1,r2,r3,r4,r5,r6]) rfl ⟨?_,?_⟩
    ·have hL:∀ (V:World) (o:Nat) (z:Value),Below w.heap.size w V->Below w.heap.size w (V.setCell ⟨w.heap.size+1,o,none⟩ z):=fun V o z q=>q.setCell (p:=⟨w.heap.size+1,o,none⟩) (by show w.heap.size<=w.heap.size+1;omega) z
     exact hL _ _ _ (hL _ _ _ (hL _ _ _ (hL _ _ _ (hL _ _ _ (hL _ _ _ (hL _ _ _ (cJ.o.setCell (p:=⟨Bx,6,none⟩) (by show w.heap.size<=Bx;omega) _)))))))
    ·rw [show bH Gb nm=some D from pR IW.o Q8.o K4.o]
     exact ⟨p3,n3,c3,by rw [K4.o]⟩
   ·have e1:=jI pD
    go_wp2;go_roundw
    case rel =>
     refine ⟨k+1,by omega,by go_num,fun j E hj hE=>?_,hB.alloc (by omega) _,by simp;omega,(cj _ _ _ (by omega)).trans yi.o⟩
     by_cases hjk:j=k
     ·subst hjk
      rw [HD.o] at hE;injection hE with hE
      rw [<- hE];exact pD
     ·exact IW.o j E (by omega) hE
    case measure=>simp [intOf];omega
  ·obtain rfl:k=Gb.length:=by omega
   have rL:=cr hR
   clear r0;obtain ⟨r0,r1,r2,r3,r4,r5,r6⟩:=se rL;have rf:=sr hR
   clear rL hR;go_wp2;refine eC (v:=.tuple #[.agg #[.string ⟨#[]⟩,.int .u64 0,.int .i64 0,.int .i64 0,.bool false,.bool false,.slice none 0 0],.bool false]) (by simp [results,Tryz.results50,go_sem,r0,r1,r2,r3,r4,r5,r6]) rfl ⟨?_,?_⟩
   ·have hL:∀ (V:World) (o:Nat) (z:Value),Below w.heap.size w V->Below w.heap.size w (V.setCell ⟨w.heap.size+1,o,none⟩ z):=fun V o z q=>q.setCell (p:=⟨w.heap.size+1,o,none⟩) (by show w.heap.size<=w.heap.size+1;omega) z
    exact hL _ _ _ (hL _ _ _ (hL _ _ _ (hL _ _ _ (hL _ _ _ (hL _ _ _ (hL _ _ _ hB))))))
   ·rw [show bH Gb nm=none from ui IW.o]
end Go.Proofs.YtjdfihglehfelaaGreatDoor
