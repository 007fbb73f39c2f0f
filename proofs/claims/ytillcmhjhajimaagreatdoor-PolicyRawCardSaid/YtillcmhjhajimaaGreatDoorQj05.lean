/- Lemmas: RanB, SpD, SpCa, RanC, RanE, RanF. -/
import Derived.Test.YtillcmhjhajimaaGreatDoorShelf
import Derived.Test.YtillcmhjhajimaaGreatDoorQj04
import Derived.RangeFuncNested
import Derived.RangeFuncBound
import Derived.Shelf.Sort.Plain
import Derived.Shelf.Slices.In.SortNone
import Derived.Shelf.SlicesQ.Equal
set_option maxRecDepth 100000
set_option maxHeartbeats 32000000
set_option linter.all false
namespace Go.Proofs.YtillcmhjhajimaaGreatDoor
open Go.Proofs.Tryz
open Go.RowKit Go.Sort
theorem AR(l:List (Int × Int))(v:Value)(w:World)(hr:xo w v l)(hlen:l.length<=100000000) :
  Calls prog 149 #[v] w fun e w'=>∃v',e=.returned v'/\bM w' w.heap.size v' l/\Below w.heap.size w w':=by
 obtain⟨p,cap,rfl,hlc,ij,hp⟩:=hr;cases p with
 |none =>
  have hl:l=[]:=by
   cases l with
   |nil=>rfl
   |cons a l=>obtain⟨b,off,e,_⟩:=hp TcO;cases e
  subst hl;refine(AnyE.slices_Clone_nil Tryz.cloneR _ _ w).mono ?_;rintro e w' ⟨rfl,rfl⟩;exact⟨_,rfl,bM.nil _ _,bj _ _⟩
 |some a =>
  by_cases h0:0<l.length
  ·obtain⟨b,off,e,hb,hc⟩:=hp h0
   cases e
   obtain⟨i0,hi,hz0,hz1,hz2⟩:=gg DT;refine(AnyE.slices_Clone Tryz.cloneR i0 _ 2 16 hi hz0 hz1 hz2 rfl TcQ Tryz.sizeOf93 b off l.length cap (bU l) w (dx l) TcW TcN (fun j u hu=>?_) (qI l)).mono ?_
   ·have hj:j<l.length*2:=by rw[<- dx];exact(List.getElem?_eq_some_iff.1 hu).1
    obtain⟨p,hp⟩:=De l (j/2) TcN;have h1:=kr l (j/2) p hp;have h2:=hc (j/2) p hp;rcases Nat.mod_two_eq_zero_or_one j with hm|hm
    ·have e:j/2*2=j:=by omega
     rw[e]at h1 h2;rw[h1.1]at hu;rw[h2.1,hu]
    have e:j/2*2+1=j:=by omega
    rw[e]at h1;rw[h1.2]at hu;rw[<- hu,<- h2.2,Nat.add_assoc,e]
   rintro e w' ⟨v',rfl,ho,_,hb'⟩;exact⟨v',rfl,ho,hb'⟩
  have hl:l=[]:=fX TcN;subst hl;have q22:∀(w:World) (a:Option Addr) (n c n' c':Nat),(binOp .eql 65 (.slice a n c) (.slice none n' c')).run prog w=.ok (.bool a.isNone) w:=fun w a n c n' c'=>Cl w _ _ a n c n' c' underlying65;show Calls prog _ #[.slice (some a) 0 cap] w _;go_enter func149,ntmps149;go_wp2;go_ret;refine⟨_,rfl,?_,(bj _ _).alloc (bk _) _⟩;exact World.ownsRow_made w #[] 0 (bk _) TcW rfl
theorem vY(x y:Int × Int)(W:World):Calls prog 151 #[.agg #[.int .i64 x.1,.int .i64 x.2],.agg #[.int .i64 y.1,.int .i64 y.2]] W fun e w'=>e=.returned (.int .i64 (Lib.compareInt x.1 y.1))/\∃q os',w'=grow (W.drewN q) os':=by
 have hcon:=fun W'=>Any.cmp_Compare_int Tryz.lays122 x.1 y.1 W';change ∀W',Calls prog 152 _ _ _ at hcon;generalize Lib.compareInt x.1 y.1=r at hcon ⊢;go_enter func151,ntmps151
 go_wp2_with(go_at_call 152;refine(hcon _).mono ?_;rintro e w' ⟨rfl,rfl⟩)
 go_ret;exact⟨rfl,0,_,by rw[alloc_eq_grow,alloc_eq_grow,grow_grow];rfl⟩
theorem xU(blk off size:Nat)(w:World):CmpLays prog 151 #[] encR 2 (fun x y=>Lib.compareInt x.1 y.1) blk off size w :=
 fun _ _ _ _ x y=>vY x y _
theorem E5(x y:Int × Int):ltOf (fun x y:Int × Int=>Lib.compareInt x.1 y.1) x y=decide (x.1<y.1):=by
 unfold ltOf Lib.compareInt;by_cases h1:x.1<y.1
 ·simp[h1]
 by_cases h2:y.1<x.1<;>simp[h1,h2]
theorem FP:SWO (ltOf fun x y:Int × Int=>Lib.compareInt x.1 y.1) where
 irrefl x:=by rw[E5];simp
 trans x y z h1 h2:=by rw[E5]at *;simp at *;omega
 ntrans x y z h1 h2:=by rw[E5]at *;simp at *;omega
theorem DL(B:Nat)(l:List (Int × Int))(v:Value)(w:World)(ho:bM w B v l)(hlen:l.length<=100000000) :
  Calls prog 150 #[v,.func (.func 151) #[] #[]] w fun e w'=>e=.returned (.tuple #[])/\∃s,s.Perm l/\(s.Pairwise fun p q=>p.1<=q.1)/\bM w' B v s/\Below B w w':=by
 by_cases h0:0<l.length
 ·obtain⟨g,cap,rfl,hB,hg,hc,hH⟩:=ho.holds h0;have eg:∀args w,(callFunc 151 args).run prog w=.ok (.enter 151 args) w:=enters_of func151 TcP rfl;have hcon:=AnyQ.slices_SortFunc Tryz.sortR 2 Tryz.isAgg93 Tryz.sizeOf93 encR (fun _=>rfl) (fun x v hv=>by simp[encR]at hv;rcases hv with rfl|rfl<;>rfl) (fun x y=>Lib.compareInt x.1 y.1) FP 151 #[] g 0 cap l.toArray w eg (xU g 0 l.toArray.size w) hH hg TcS;change Calls prog 150 _ _ _ at hcon;refine hcon.mono ?_;rintro e w' ⟨rfl,d',n,os,hp,hs,rfl⟩;obtain⟨a,b,c⟩:=xV l d' hp hs;have:=bM.sorted (n:=n) (os:=os) ho b;exact⟨rfl,d'.toList,a,c,this.1,this.2⟩
 have hl:l=[]:=fX TcN;subst hl;obtain⟨p,cap,rfl,_⟩:=ho.rd;refine(AnyF.slices_SortFunc_none Tryz.sortR p cap _ w).mono ?_;rintro e w' ⟨rfl,rfl⟩;exact⟨rfl,[],List.Perm.refl _,List.Pairwise.nil,ho,bj _ _⟩
def FK(w:World)(S:Int->Prop)(N:Nat)(e:Ending)(w':World):Prop :=
 ∃v x,e=.returned v/\bM w' w.heap.size v x/\iE x S/\x.length<=N/\Below w.heap.size w w'
theorem iF{l:List (Int × Int)}(h:dI l=true):∀p∈l,0<=p.1/\0<=p.2/\p.1+p.2<=1073741824:=fun p hp=>by
 unfold dI at h;have:=En (List.all_eq_true.1 h p hp);omega
theorem sI(o:List (Int × Int))(r:Int × Int):(cZ o r).length<=o.length+1:=by
 unfold cZ;split
 ·omega
 split
 ·simp
 split
 ·simp only[cD,List.length_dropLast,A4];omega
 simp
theorem tF(l:List (Int × Int))(k:Nat)(hk:k<=l.length):(merge (l.take k)).length<=k:=by
 induction k with
 |zero=>simp[merge]
 |succ k ih =>
  obtain⟨x,hx⟩:=aj l k TcN;rw[take_snoc' l k x hx,fQ];have:=sI (merge (l.take k)) x;have:=ih TcN;omega
theorem Tch{p:Prop}(h:p:=by
 rcases List.mem_append.1 hp with hp|hp
 ·exact ho p hp
 simp at hp;subst hp;exact hr):p:=h
theorem uS(M:Int)(o:List (Int × Int))(r:Int × Int)(ho:∀p∈o,0<=p.1/\0<=p.2/\p.1+p.2<=M)(hr:0<=r.1/\0<=r.2/\r.1+r.2<=M):∀p∈cZ o r,0<=p.1/\0<=p.2/\p.1+p.2<=M:=by
 intro p hp;unfold cZ at hp;split at hp
 ·exact ho p hp
 split at hp
 ·exact Tch
 rename_i q hq;have hqm:=ho q (List.mem_of_getLast? hq);split at hp
 ·rcases List.mem_append.1 hp with hp|hp
  ·exact ho p (List.dropLast_subset o hp)
  simp at hp;subst hp;simp only[];omega
 exact Tch
theorem CL(M:Int)(l:List (Int × Int))(h:∀p∈l,0<=p.1/\0<=p.2/\p.1+p.2<=M)(k:Nat)(hk:k<=l.length):∀p∈merge (l.take k),0<=p.1/\0<=p.2/\p.1+p.2<=M:=by
 induction k with
 |zero=>simp[merge]
 |succ k ih =>
  obtain⟨x,hx⟩:=aj l k TcN;rw[take_snoc' l k x hx,fQ];exact uS M _ x (ih TcN) (h x (ct hx))
theorem zC(s:List (Int × Int))(k:Nat)(x:Int × Int)(hx:s[k]?=some x)(h0:x.2=0):merge (s.take (k+1))=merge (s.take k):=by
 rw[take_snoc' s k x hx,fQ];unfold cZ;rw[aw h0]
theorem vZ(s:List (Int × Int))(k:Nat)(x:Int × Int)(hx:s[k]?=some x)(h0:x.2≠0)(ho:merge (s.take k)=[]):merge (s.take (k+1))=merge (s.take k)++[x]:=by
 rw[take_snoc' s k x hx,fQ];unfold cZ;rw[bh h0,ho];rfl
theorem wy(s:List (Int × Int))(k:Nat)(x:Int × Int)(hx:s[k]?=some x)(h0:x.2≠0)(i:List (Int × Int))(q:Int × Int)(ho:merge (s.take k)=i++[q])(hq:¬x.1<=q.1+q.2):merge (s.take (k+1))=i++[q]++[x]:=by
 rw[take_snoc' s k x hx,fQ];unfold cZ;rw[bh h0,ho];simp[hq]
theorem yK(s:List (Int × Int))(k:Nat)(x:Int × Int)(hx:s[k]?=some x)(h0:x.2≠0)(i:List (Int × Int))(q:Int × Int)(ho:merge (s.take k)=i++[q])(hq:x.1<=q.1+q.2):merge (s.take (k+1))=i++[(q.1,max q.2 (x.1+x.2-q.1))]:=by
 rw[take_snoc' s k x hx,fQ];unfold cZ;rw[bh h0,ho];simp[hq]
theorem TbB{p:Prop}(h:p:=by
 (repeat' (first|exact bj _ _|exact bk _|(refine dT ?_ ?_ _)|(refine aT ?_ _)|(refine ee ?_)|(simp;done)|(simp;omega)))):p:=h
theorem TeA{p:Prop}(h:p:=by refine RowKit.Below.mono (B:=wr.heap.size) ?_ hb.size;(repeat' (first|exact bj _ _|exact bk _|(refine dT ?_ ?_ _)|(refine aT ?_ _)|(refine ee ?_)|(simp;done)|(simp;omega)))):p:=h
theorem jJ(l:List (Int × Int))(v:Value)(w:World)(hr:xo w v l)(hval:dI l=true)(hlen:l.length<=10000000) :
  Calls prog 104 #[v] w (FK w (Mem l) l.length):=by
 have HV:=aa hval;clear hval;go_enter func104,ntmps104
 go_wp2_with fail;refine(AR l v w hr TcN).mono ?_;rintro e w1 ⟨v1,rfl,ho1,hb1⟩;go_wp2_with fail;refine(DL w.heap.size l v1 w1 ho1 TcN).mono ?_;rintro e w2 ⟨rfl,s,hp,hs,ho2,hb2⟩;have hb02:Below w.heap.size w w2:=hb1.trans hb2;have GF:s.length=l.length:=hp.length_eq;have HP:=aa hp;have HS:=aa hs;have HL:=aa GF;have hsn:s.length<=10000000:=by omega
 clear hp hs GF;obtain⟨p2,cap2,rfl,hlc2,ar5,hp2⟩:=ho2.rd;clear ho1 ho2 hb1 hb2 hr;go_wp2;go_loopw[4,14] (fun vo i wr=>∃k:Nat,k<=s.length/\i=.int .i64 k/\bM wr w2.heap.size vo (merge (s.take k))/\Below w2.heap.size w2 wr) (fun _ i _=>s.length-(intOf i).toNat)
 exact⟨0,cg _,rfl,bM.nil _ _,bj _ _⟩;obtain⟨k,hk,rfl,hown,hb⟩:=hrel;by_cases hlt:k<s.length
 ·obtain⟨x,hx⟩:=aj s k hlt;obtain⟨b,off,rfl,gO,hc⟩:=hp2 TcN;have hcc:=(hc.below hb gO) k x hx;have hc1:=hcc.1;have hc2:=hcc.2;have cX:b<wr.heap.size:=cC gO hb.size;have pB:=iF HV.o x (HP.o.mem_iff.1 (ct hx));obtain⟨hx0,hx1,hx2⟩:=pB;have aq2:=CL 1073741824 s (fun p hp=>iF HV.o p (HP.o.mem_iff.1 hp)) k hk;have hol:=tF s k hk;have HX:=aa hx;clear hc hp2 hcc hx;obtain⟨o,ho⟩:∃o,o=merge (s.take k):=⟨_,rfl⟩;rw[<- ho]at hown aq2 hol;have HO:=aa ho;clear ho
  by_cases h0:x.2=0
  ·have h0':(x.2==0)=true:=by simp[h0]
   have H0:=aa h0;clear h0;go_wp2;go_roundw;exact⟨k+1,TcN,TcR,by rw[zC s k x HX.o H0.o,<- HO.o];exact hown.alloc _,hb.alloc hb.size _⟩;simp[intOf];omega
  have h0':(x.2==0)=false:=by simp[h0]
  have H0:=aa h0;clear h0;rcases List.eq_nil_or_concat o with rfl|⟨i,q,rfl⟩
  ·obtain⟨p3,cap3,rfl,_,_,_⟩:=hown.rd;go_wp2;go_quiet (fail)
   go_wp2_with(at_builtin;refine jg rfl _ _ rfl w2.heap.size _ [] x rfl ?c1 (wr.heap.size+1) 1 rfl ?c2 ?c3 TcO ?c4 ?_)
   case c1=>refine hown.below ?_;(repeat' (first|exact bj _ _|exact bk _|(refine dT ?_ ?_ _)|(refine aT ?_ _)|(refine ee ?_)|(simp;done)|(simp;omega)))
   case c2=>go_simp
   case c3=>go_simp
   case c4=>have:=hb.size;simp;omega
   intro v4 w4 ho4 hb4 _;have hb5:RowKit.Below w2.heap.size w2 w4:=(hb.trans TeA).trans hb4;go_wp2;go_roundw;exact⟨k+1,TcN,TcR,by rw[vZ s k x HX.o H0.o HO.o.symm,<- HO.o];exact ho4,hb5⟩;simp[intOf];omega
  simp only[List.concat_eq_append]at *;have hq:=aq2 q TcO;obtain⟨hq0,hq1,hq2⟩:=hq;clear aq2;obtain⟨g,cap3,rfl,TR,ye,hgc,hgm,Vq,Vr,Yi,hst⟩:=hown.last;have hlen1:i.length+1<=k:=by simpa using hol
  clear hol;by_cases hle:x.1<=q.1+q.2
  ·go_wp2;go_quiet (fail);go_wp2
   (refine il 21 TcP TcP ?_;simp only[xi,iv,cQ,cL];(repeat(go_big_quiet_step (fail)));(with_reducible refine fR ?_);intro wq ia;obtain⟨nq,ia⟩:=ia;subst ia)
   go_wp2;go_roundw
   case rel =>
    refine⟨k+1,TcN,TcR,?_,?_⟩
    ·rw[yK s k x HX.o H0.o i q HO.o.symm hle];refine bM.setLast ?_ _;refine hown.below ?_;exact TbB
    refine RowKit.Below.setCell ?_ (by exact TR) _;refine hb.trans ?_;refine RowKit.Below.mono (B:=wr.heap.size) ?_ hb.size;exact TbB
   simp[intOf];omega
  have hle':decide (x.1<=q.1+q.2)=false:=by simp;omega
  go_wp2;go_quiet (fail)
  go_wp2_with(at_builtin;refine jg rfl _ _ rfl w2.heap.size _ (i++[q]) x rfl ?c1 (wr.heap.size+1) 1 rfl ?c2 ?c3 TcS ?c4 ?_)
  case c1=>refine hown.below ?_;(repeat' (first|exact bj _ _|exact bk _|(refine dT ?_ ?_ _)|(refine aT ?_ _)|(refine ee ?_)|(simp;done)|(simp;omega)))
  case c2=>go_simp
  case c3=>go_simp
  case c4=>have:=hb.size;simp;omega
  intro v4 w4 ho4 hb4 _;have hb5:RowKit.Below w2.heap.size w2 w4:=(hb.trans TeA).trans hb4;go_wp2;go_roundw;exact⟨k+1,TcN,TcR,by rw[wy s k x HX.o H0.o i q HO.o.symm TcN];simpa using ho4,hb5⟩;simp[intOf];omega
 go_wp2;go_ret;have Vk:k=s.length:=by omega
 subst Vk;rw[cI]at hown;refine⟨_,_,rfl,hown.mono hb02.size,zL l s HP.o HS.o (fun p hp=>(iF HV.o p hp).2.1),?_,hb02.trans (hb.mono hb02.size)⟩;have:=tF s s.length (bk _);rw[cI]at this;have:=HL.o;omega
theorem yJ{ok:Nat->Prop}(l:List ByteArray)(v:Value)(w:World)(hr:b6 aF 1 ok w [v] l)(hlen:l.length<=100000000) :
  Calls prog 53 #[v] w fun e w'=>∃p n c,e=.returned (.slice p n c)/\Below w.heap.size w w':=by
 obtain⟨p,cap,e,hlc,ij,hp⟩:=hr;obtain rfl:=List.singleton_inj.1 e;clear e;cases p with
 |none =>
  have hl:l=[]:=by
   cases l with
   |nil=>rfl
   |cons a l=>obtain⟨b,off,e,_⟩:=hp TcO;cases e
  subst hl;refine(AnyE.slices_Clone_nil Tryz.cloneS _ _ w).mono ?_;rintro e w' ⟨rfl,rfl⟩;exact⟨_,_,_,rfl,bj _ _⟩
 |some a =>
  by_cases h0:0<l.length
  ·obtain⟨b,off,e,hb,_,hc⟩:=hp h0
   cases e
   obtain⟨i0,hi,hz0,hz1,hz2⟩:=gg o5;refine(AnyE.slices_Clone Tryz.cloneS i0 _ 1 16 hi hz0 hz1 hz2 rfl TcQ Tryz.sizeOf9 b off l.length cap (l.map Value.string) w TcO TcW TcN (fun j u hu=>?_) Tc0).mono ?_
   ·rw[rI]at hu;obtain⟨x,hx,rfl⟩:=Option.map_eq_some_iff.1 hu;obtain⟨u,hu1,hu2,hu3⟩:=hc j x hx;obtain rfl:u=[.string x]:=hu2;have:=hu3 0 _ rfl;simpa using this
   rintro e w' ⟨v',rfl,ho,_,hb'⟩;rcases ho.2 with⟨rfl,_⟩|⟨g,c,cur,rfl,_⟩
   ·exact⟨_,_,_,rfl,hb'⟩
   exact⟨_,_,_,rfl,hb'⟩
  have hl:l=[]:=fX TcN;subst hl;have q22:∀(w:World) (a:Option Addr) (n c n' c':Nat),(binOp .eql 27 (.slice a n c) (.slice none n' c')).run prog w=.ok (.bool a.isNone) w:=fun w a n c n' c'=>Cl w _ _ a n c n' c' underlying27;show Calls prog _ #[.slice (some a) 0 cap] w _;go_enter func53,ntmps53;go_wp2;go_ret;exact⟨_,_,_,rfl,(bj _ _).alloc (bk _) _⟩
theorem jI{a b:ByteArray}(h:¬a=b):(a.toList==b.toList)=false:=by
 rw[A6,A6];obtain⟨⟨x⟩⟩:=a;obtain⟨⟨y⟩⟩:=b;simp only[beq_eq_false_iff_ne];exact fun e=>h (by rw[show x=y from e])
theorem ui{Gb:List az}{nm:ByteArray}(h:∀(j:Nat) (D:az),j<Gb.length->Gb[j]?=some D->¬D.name=nm):Gb.find? (fun D=>decide (D.name=nm))=none:=by
 rw[List.find?_eq_none];intro D hD;obtain⟨j,hj⟩:=fc hD;simpa using h j D (List.getElem?_eq_some_iff.1 hj).1 hj
theorem pR:∀ {Gb:List az} {nm:ByteArray} {k:Nat} {D:az},(∀(j:Nat) (E:az),j<k->Gb[j]?=some E->¬E.name=nm)->Gb[k]?=some D->D.name=nm->Gb.find? (fun D=>decide (D.name=nm))=some D
 |[],_,_,_,_,h,_=>by simp at h
 |E :: l,nm,0,D,_,h,e=>by
  obtain rfl:E=D:=by simpa using h
  simp[e]
 |E :: l,nm,k+1,D,hno,h,e=>by
  have h0:¬E.name=nm:=hno 0 E TcN rfl;rw[List.find?_cons_of_neg TdC];exact pR (k:=k) (fun j F hj hF=>hno (j+1) F TcN (by simpa using hF)) Tdc e
def bH(Gb:List az)(nm:ByteArray):Option az:=Gb.find? fun D=>decide (D.name=nm)
def Tak :Tab #[.string ⟨#[]⟩,.int .u64 0,.int .i64 0,.int .i64 0,.bool false,.bool false,.slice none 0 0]:=⟨⟩
def Tap(x0:az)(x1:Nat)(x2:Option Addr)(x3:Nat):Tab #[.string x0.name,.int .u64 x0.id,.int .i64 x0.first,.int .i64 x0.Gc,.bool x0.closed,.bool x0.missing,.slice x2 x1 x3]:=⟨⟩
def FE(Gb:List az)(nm:ByteArray)(w:World)(e:Ending)(w':World):Prop:=Below w.heap.size w w' /\
 match bH Gb nm with
 |some D=>∃p n c,e=.returned (.tuple #[.agg (Tap D n p c),.bool true])
 |none=>e=.returned (.tuple #[.agg Tak,.bool false])
def Tav(x0:ByteArray)(x1:az)(x2:Option Addr)(x3:Nat):Tab #[.string x0,.int .u64 x1.id,.int .i64 x1.first,.int .i64 x1.Gc,.bool x1.closed,.bool x1.missing,.slice x2 x1.tags.length x3]:=⟨⟩
def Tam(x0:ByteArray)(x1:Int)(x2:Int)(x3:Int)(x4:Int)(x5:Nat)(x6:Option Addr)(x7:Nat)(x8:Nat)(x9:Option Addr)(x10:Nat)(x11:Nat)(x12:Option Addr)(x13:Nat)(x14:Nat)(x15:Option Addr)(x16:Nat):Tab #[.string x0,.int .u64 x1,.int .i64 x2,.int .i64 x3,.int .i64 x4,.slice x6 x5 x7,.slice x9 x8 x10,.slice x12 x11 x13,.slice x15 x14 x16]:=⟨⟩
theorem Ta5{p:Prop}(h:p:=by
 ·have e1:=jI pD;go_wp2;go_roundw
  case rel =>
   refine⟨k+1,TcN,TcR,fun j E hj hE=>?_,hB.alloc TcN _,TcS,(cj _ _ _ TcN).trans yi.o⟩;by_cases hjk:j=k
   ·subst hjk;rw[HD.o]at hE;injection hE with hE;rw[<- hE];exact pD
   exact Ty.o j E TcN hE
  simp[intOf];omega):p:=h
theorem Tdu{p:Prop}(h:p:=by show w.heap.size<=w.heap.size+1;omega):p:=h
theorem Ta0{p:Prop}(h:p:=by
 have hL:∀(V:World) (o:Nat) (z:Value),Below w.heap.size w V->Below w.heap.size w (V.setCell ⟨w.heap.size+1,o,none⟩ z):=fun V o z q=>q.setCell (p:=⟨w.heap.size+1,o,none⟩) Tdu z
 exact hL _ _ _ (hL _ _ _ (hL _ _ _ (hL _ _ _ (hL _ _ _ (hL _ _ _ (hL _ _ _ (cJ.o.setCell (p:=⟨Bx,6,none⟩) (by show w.heap.size<=Bx;omega) _)))))))):p:=h
theorem TdV{p:Prop}(h:p:=by simp[results,Tryz.results24,go_sem,r0,r1,r2,r3,r4,r5,r6]):p:=h
theorem Zbk{w w':World}{b:Nat}{x:Obj}(hb:Below w.heap.size w w')(h:Hid (w.heap[b]?=some x)):Hid (w'.heap[b]?=some x):=aa ((hb.block _ (aq h.o)).trans h.o)
theorem Zbl{w v u:World}(a:Hid (Below w.heap.size w v))(hb:Below v.heap.size v u):Hid (Below w.heap.size w u):=aa (a.o.trans (hb.mono a.o.size))
theorem vV{ok:Nat->Prop}(name:ByteArray)(id seq ext nx:Int)(tp dp vp hp:Option Addr)(tl tc dc vl vc hl hc:Nat)(Gb:List az)(nm:ByteArray)(w:World)(hr:b6 aO 7 ok w [.slice dp Gb.length dc] Gb)(hd:Gb.length<=1000)(ht:∀D∈Gb,D.tags.length<=1000) :
  Calls prog 24 #[.agg (Tam name id seq ext nx tl tp tc Gb.length dp dc vl vp vc hl hp hc),.string nm] w (FE Gb nm w):=by
 have HR:=aa hr;clear hr;have HT:=aa ht;clear ht;go_enter func24,ntmps24;go_wp2
 go_loopw[11] (fun i wr=>∃k:Nat,k<=Gb.length/\i=.int .i64 k/\(∀j D,j<k->Gb[j]?=some D->¬D.name=nm)/\Below w.heap.size w wr/\w.heap.size+1<wr.heap.size/\wr.heap[w.heap.size+1]?=some (.cells Tak 39 (0,0))) (fun i _=>Gb.length-(intOf i).toNat)
 case atStart =>
  refine⟨0,cg _,rfl,(fun j D hj=>by omega),((bj _ _).alloc (bk _) _).alloc TcO _,TcO,?_⟩;have:=b9 (w.alloc (.cells (Tam name id seq ext nx tl tp tc Gb.length dp dc vl vp vc hl hp hc) 32)) (.cells Tak 39);rw[cW]at this;exact this
 obtain⟨k,hk,rfl,hno,hB,hz,hR⟩:=hrel;have Ty:=aa hno;clear hno;have r0:=cr hR 0 _ rfl;by_cases hlt:k<Gb.length
 ·obtain⟨D,hD⟩:=aj Gb k hlt;obtain⟨b,off,u,rfl,gR,cX,ez,sA,hcv⟩:=HR.o.elem hD;obtain⟨tv,rfl,ew⟩:=sA;obtain⟨tp',tc',rfl,_,_⟩:=ew.cap;have cT:wr.heap[b]?=w.heap[b]?:=hB.block b cX;have q0:=(cd (w:=w) (a:=⟨b,off+k*7,none⟩) cT).trans (hcv 0 _ rfl);have q1:=(cd (w:=w) (a:=⟨b,off+k*7+1,none⟩) cT).trans (hcv 1 _ rfl);have q2:=(cd (w:=w) (a:=⟨b,off+k*7+2,none⟩) cT).trans (hcv 2 _ rfl);have q3:=(cd (w:=w) (a:=⟨b,off+k*7+3,none⟩) cT).trans (hcv 3 _ rfl);have q4:=(cd (w:=w) (a:=⟨b,off+k*7+4,none⟩) cT).trans (hcv 4 _ rfl);have q5:=(cd (w:=w) (a:=⟨b,off+k*7+5,none⟩) cT).trans (hcv 5 _ rfl);have q6:=(cd (w:=w) (a:=⟨b,off+k*7+6,none⟩) cT).trans (hcv 6 _ rfl);have HD:=aa hD;clear hD;have Hx:=aa ew;clear ew;have yi:=aa hR;clear hR;clear hcv ez cT r0;by_cases pD:D.name=nm
  ·have G2:=ae wr (.cells (Tav nm D tp' tc') 39);have Vs:=aa (b9 wr (.cells (Tav nm D tp' tc') 39));have MW:=aa ((G2.block _ hz).trans yi.o);have pL:=aa (hB.trans (G2.mono TcN));have Qf:Hid (wr.heap.size<(wr.alloc (.cells (Tav nm D tp' tc') 39)).heap.size):=aa TcO;have nt:=HT.o D (ct HD.o);clear G2;go_wp2_with fail;generalize DA:wr.alloc _=WA at *;clear DA;refine(yJ (ok:=fun b=>ok b/\b<w.heap.size) D.tags _ _ ((b6.moves aF.moves).mv ⟨pL.o.size,fun b hb ho=>⟨⟨ho,hb⟩,pL.o.block b hb⟩⟩ Hx.o) TcN).mono ?_;rintro e w3 ⟨p3,n3,c3,rfl,hb3⟩;have hx:=(hb3.block _ Qf.o).trans Vs.o;have hr3:=(hb3.block _ (by have:=aq MW.o;omega)).trans MW.o;have xL:=cr hx;have rL:=cr hr3;have x0:=xL 0 _ rfl;have r0:=rL 0 _ rfl;have x1:=xL 1 _ rfl;have r1:=rL 1 _ rfl;have x2:=xL 2 _ rfl;have r2:=rL 2 _ rfl;have x3:=xL 3 _ rfl;have r3:=rL 3 _ rfl;have x4:=xL 4 _ rfl;have r4:=rL 4 _ rfl;have x5:=xL 5 _ rfl;have r5:=rL 5 _ rfl;have x6:=xL 6 _ rfl;have r6:=rL 6 _ rfl;have xf:=sr hx;have rf:=sr hr3;have cJ:=Zbl pL hb3;clear xL rL hx hr3 hb3;have hne:¬wr.heap.size=w.heap.size+1:=by omega
   have hne2:¬w.heap.size+1=wr.heap.size:=by omega
   generalize hBx:wr.heap.size=Bx at *;have HDN:=aa pD;have Q8:=aa HD.o;go_wp2;refine eC (v:=.tuple #[.agg #[.string nm,.int .u64 D.id,.int .i64 D.first,.int .i64 D.Gc,.bool D.closed,.bool D.missing,.slice p3 n3 c3],.bool true]) TdV rfl ⟨?_,?_⟩
   ·exact Ta0
   rw[show bH Gb nm=some D from pR Ty.o Q8.o HDN.o];exact⟨p3,n3,c3,by rw[HDN.o]⟩
  exact Ta5
 obtain rfl:k=Gb.length:=by omega
 have rL:=cr hR;clear r0;obtain⟨r0,r1,r2,r3,r4,r5,r6⟩:=se rL;have rf:=sr hR;clear rL hR;go_wp2;refine eC (v:=.tuple #[.agg Tak,.bool false]) TdV rfl ⟨?_,?_⟩
 ·have hL:∀(V:World) (o:Nat) (z:Value),Below w.heap.size w V->Below w.heap.size w (V.setCell ⟨w.heap.size+1,o,none⟩ z):=fun V o z q=>q.setCell (p:=⟨w.heap.size+1,o,none⟩) Tdu z
  exact hL _ _ _ (hL _ _ _ (hL _ _ _ (hL _ _ _ (hL _ _ _ (hL _ _ _ (hL _ _ _ hB))))))
 rw[show bH Gb nm=none from ui Ty.o]
open Go.Shelf
variable {W W':World}{row:Option Nat}{B n:Nat}
attribute [local go_sem] Oper.semAt_some
theorem Ew(name:ByteArray)(id seq ext nx:Int)(tp dp vp hp:Option Addr)(tl tc dl dc vl vc hl hc:Nat)(w:World) :
  Calls prog 99 #[.agg (Tam name id seq ext nx tl tp tc dl dp dc vl vp vc hl hp hc)] w fun e w'=>e=.returned (.func (.func 146) #[] #[.pointer (some w.heap.size)])/\w'=w.alloc (.cells (Tam name id seq ext nx tl tp tc dl dp dc vl vp vc hl hp hc) 32):=by
 go_enter func99,ntmps99;go_wp2;go_ret;exact⟨rfl,rfl⟩
theorem xu{k:Nat}{a:Array Value}{b:TypeId}{c:Nat × Nat}(hg:W.grownBy W' row)(hr:∀r,row=some r->B<=r/\∃o:Obj,W.heap[r]?=some o/\o.isCells=false)(h:W.heap[k]?=some (.cells a b c)):W'.heap[k]?=some (.cells a b c) :=
 (hg.block k (aq h) (fun e=>by
  obtain⟨_,o,ho,hc⟩:=hr k e.symm;rw[h]at ho;injection ho with ho;subst ho
  cases hc)).trans h
theorem keepR{B' sz:Nat}{t:TypeId}{v:Value}{xs:List Value}(hg:W.grownBy W' row)(hr:∀r,row=some r->B<=r/\∃o:Obj,W.heap[r]?=some o/\o.isCells=false)(h:W.ownsRow B' t sz v n xs):W'.ownsRow B' t sz v n xs:=by
 refine aC h fun k e=>?_;rcases h.2 with⟨rfl,_⟩|⟨g,cap,cur,rfl,_,hgg,_⟩
 ·cases e
 obtain rfl:g=k:=by injection e
 exact(xu hg hr hgg).trans hgg.symm
theorem DZ{F:Fence}{P:Program}{ops:Array Oper}{Q:Exit->Act->World->Prop}{o:Oper}{l:List Oper}{a:Act}{w:World}(h:Hid (wpListIn F n P ops Q (o :: l) a w)):wpListIn F n P ops Q (o :: l) a w:=h.o
end Go.Proofs.YtillcmhjhajimaaGreatDoor
namespace Go.Proofs.YtillcmhjhajimaaGreatDoor
open Go.Proofs.Tryz
open Go.RowKit
def Ey(w:World)(v:Value)(ls:List (List (Int × Int))):Prop :=
 ∃g cap,v=.slice (some ⟨g,0,none⟩) ls.length cap/\ls.length<=cap/\cap<=9223372036854775807/\g<w.heap.size/\∀(i:Nat) (l:List (Int × Int)),ls[i]?=some l->∃u,w.cell? ⟨g,i,none⟩=some u/\xo w u l
theorem xZ(ls:List (List (Int × Int)))(k:Nat)(l:List (Int × Int))(h:ls[k]?=some l)(hv:dI l=false):ls.all dI=false:=by
 rw[lr];exact⟨l,ct h,by simp[hv]⟩
theorem BN(ls:List (List (Int × Int)))(k:Nat)(l:List (Int × Int))(h:ls[k]?=some l)(ha:(ls.take k).all dI=true)(hv:dI l=true):(ls.take (k+1)).all dI=true:=by
 rw[take_snoc' ls k l h,List.all_append,ha];simp[hv]
theorem qK(ls:List (List (Int × Int)))(v:Value)(w:World)(hr:Ey w v ls) :
  Calls prog 103 #[v] w fun e w'=>e=.returned (.bool (ls.all dI))/\Below w.heap.size w w':=by
 obtain⟨g,cap,rfl,hlc,ij,hg,hc⟩:=hr;go_enter func103,ntmps103;go_wp2
 go_loopw[9] (fun i wr=>∃k:Nat,k<=ls.length/\i=.int .i64 k/\(ls.take k).all dI=true/\Below w.heap.size w wr) (fun i _=>ls.length-(intOf i).toNat)
 exact⟨0,cg _,rfl,rfl,bj _ _⟩;obtain⟨k,hk,rfl,hall,hb⟩:=hrel;have cE:=aa hall;clear hall;by_cases hlt:k<ls.length
 ·obtain⟨l,hl⟩:=aj ls k hlt;obtain⟨u,hu,Um⟩:=hc k l hl;have hcell:wr.cell? (g,k)=some u:=(hb.cell (p:=⟨g,k,none⟩) hg).trans hu;obtain⟨p,cap2,rfl,hlc2,ar5,hp2⟩:=Um.below hb;have HL:=aa hl;clear hc hu Um hl;go_wp2;obtain⟨wo,rfl⟩:∃wo:World,wo=wr:=⟨_,rfl⟩
  go_loopw[15] (fun i wr=>∃j:Nat,j<=l.length/\i=.int .i64 j/\dI (l.take j)=true/\Below wo.heap.size wo wr) (fun i _=>l.length-(intOf i).toNat)
  exact⟨0,cg _,rfl,rfl,bj _ _⟩;obtain⟨j,hj,rfl,hall2,hb2⟩:=hrel;have sR:=aa hall2;clear hall2;by_cases hlt2:j<l.length
  ·obtain⟨b,off,rfl,gO,hc⟩:=hp2 TcN;obtain⟨x,hx⟩:=aj l j hlt2;have hcc:=(hc.below hb2 gO) j x hx;have hc1:=hcc.1;have hc2:=hcc.2;have HX:=aa hx;clear hc hp2 hcc hx;go_wp2_with fail;refine(AQ _ _ _).mono ?_;rintro e w1 ⟨rfl,hb1⟩;have hb3:Below wo.heap.size wo w1:=mn (hb2.alloc hb2.size _) hb1;cases hv:nT x.1 x.2
   ·go_wp2;go_ret;exact⟨ah (xZ ls k l HL.o (zA l j x HX.o hv)).symm,mn hb hb3⟩
   go_wp2;go_roundw;exact⟨j+1,TcN,TcR,Cm l j x HX.o sR.o hv,hb3⟩;simp[intOf];omega
  go_wp2;go_roundw;exact⟨k+1,TcN,TcR,BN ls k l HL.o cE.o (Ce l j TcN sR.o),mn hb hb2⟩;simp[intOf];omega
 go_wp2;go_ret;refine⟨ah ?_,hb⟩;have:=cE.o;rw[jz TcN]at this;exact this.symm
theorem Cz(w:World)(v:Value)(l:List (Int × Int))(t:TypeId)(h:xo w v l):Ey (w.alloc (.cells #[v] t)) (.slice (some w.heap.size) 1 1) [l]:=by
 refine⟨w.heap.size,1,rfl,TcO,TcN,TcO,fun i l' hi=>?_⟩
 match i,hi with
 |0,hi =>
  simp at hi;subst hi;exact⟨v,Tds,h.below ((bj _ _).alloc (bk _) _)⟩
 |i+1,hi=>simp at hi
theorem xK(w:World)(v1 v2:Value)(l1 l2:List (Int × Int))(t:TypeId)(h1:xo w v1 l1)(h2:xo w v2 l2):Ey (w.alloc (.cells #[v1,v2] t)) (.slice (some w.heap.size) 2 2) [l1,l2]:=by
 refine⟨w.heap.size,2,rfl,TcO,TcN,TcO,fun i l' hi=>?_⟩
 match i,hi with
 |0,hi =>
  simp at hi;subst hi;exact⟨v1,Tds,h1.below ((bj _ _).alloc (bk _) _)⟩
 |1,hi =>
  simp at hi;subst hi;exact⟨v2,Tds,h2.below ((bj _ _).alloc (bk _) _)⟩
 |i+2,hi=>simp at hi
def zz(w:World)(S:Int->Prop)(N:Nat)(e:Ending)(w':World):Prop :=
 ∃v x,e=.returned (.tuple #[v,.int .i64 0])/\bM w' w.heap.size v x/\iE x S/\x.length<=N/\Below w.heap.size w w'
theorem tJ(l:List (Int × Int))(v:Value)(w:World)(hr:xo w v l)(hval:dI l=true)(hlen:l.length<=10000000) :
  Calls prog 60 #[v] w (zz w (Mem l) l.length):=by
 have HV:=aa hval;clear hval;have hr0:=hr;obtain⟨p0,cap0,rfl,_⟩:=hr0;go_enter func60,ntmps60
 go_wp2_with fail;refine(qK [l] _ _ (Cz w _ l _ hr)).mono ?_;rintro e w1 ⟨rfl,hb1⟩;have hb01:Below w.heap.size w w1:=mn ((bj _ _).alloc (bk _) _) hb1;have hv:[l].all dI=true:=by simp[HV.o]
 go_wp2_with fail;refine(jJ l _ w1 (hr.below hb01) HV.o hlen).mono ?_;rintro e w2 ⟨v2,x,rfl,ho,hx,vh,hb2⟩;go_wp2;go_ret2;exact⟨v2,x,rfl,ho.mono hb01.size,hx,vh,mn hb01 hb2⟩
def Aw(l:List (Int × Int)):Int:=(l.map (·.2)).sum
theorem El{x l:List (Int × Int)}(hx:iE x (Mem l))(hv:dI l=true):∀p∈x,0<=p.1/\1<=p.2/\p.1+p.2<=1073741824:=fun p hp=>by
 have h1:=hx.1.1 p hp;obtain⟨a,ha,ha1,_⟩:=(hx.2 p.1).1 ⟨p,hp,TcN,TcN⟩;obtain⟨b,hb,_,hb2⟩:=(hx.2 (p.1+p.2-1)).1 ⟨p,hp,TcN,TcN⟩;have:=iF hv a ha;have:=iF hv b hb;omega
theorem GR{α:Type}(x:List α)(k:Nat)(y:α)(h:x[k]?=some y):x.drop k=y :: x.drop (k+1):=by
 obtain⟨hk,rfl⟩:=List.getElem?_eq_some_iff.1 h;exact tB hk
open Go.Sort
variable {a:List (Int × Int)}{i:Nat}{n:Int}
def eU(l:List (Int × Int)):List Int:=l.flatMap fun p=>[p.1,p.1+p.2]
theorem xw(l:List (Int × Int))(k:Nat)(x:Int × Int)(h:l[k]?=some x):eU (l.take (k+1))=eU (l.take k)++[x.1,x.1+x.2]:=by
 rw[take_snoc' l k x h];simp[eU]
theorem kE(l:List (Int × Int)):(eU l).length=2*l.length:=by
 induction l with
 |nil=>rfl
 |cons p l ih=>simp[eU]at *;omega
def dV(ls:List (List (Int × Int))):List Int:=ls.flatMap eU
theorem xJ(ls:List (List (Int × Int)))(k:Nat)(l:List (Int × Int))(h:ls[k]?=some l):dV (ls.take (k+1))=dV (ls.take k)++eU l:=by
 rw[take_snoc' ls k l h];simp[dV]
theorem qE(N:Nat)(ls:List (List (Int × Int)))(h:∀l∈ls,l.length<=N):(dV ls).length<=2*N*ls.length:=by
 induction ls with
 |nil=>simp[dV]
 |cons l ls ih =>
  have h1:=ih (fun l hl=>h l (by simp[hl]));have h2:=h l TcO;have h3:=kE l;simp only[dV,lB,cD,cS]at *;rw[Nat.mul_add,fp];omega
def Cq(P:List Int)(Z:List Int):Prop:=P.Pairwise (·<·)/\∀n,n∈P↔n∈Z
theorem Bp(B:Nat)(l:List Int)(v:Value)(w:World)(ho:eG w B v l)(hlen:l.length<=100000000) :
  Calls prog 173 #[v] w fun e w'=>e=.returned (.tuple #[])/\eG w' B v (l.mergeSort fun x y=>decide (x<=y))/\Below B w w':=by
 by_cases h0:0<l.length
 ·obtain⟨g,cap,rfl,hB,hg,hc,_,hH⟩:=ho.holds h0;have hcon:=Any.slices_Sort_int Tryz.lays189 g 0 cap l w hH hg TcN;change Calls prog 173 _ _ _ at hcon;refine hcon.mono ?_;rintro e w' ⟨rfl,n,os,rfl⟩;have:=eG.sorted (n:=n) (os:=os) (s:=l.mergeSort fun x y=>decide (x<=y)) ho (DO l);exact⟨rfl,this.1,this.2⟩
 have hl:l=[]:=fX TcN;subst hl;obtain⟨p,cap,rfl,_⟩:=ho.rd;refine(Any.slices_Sort_int_none Tryz.lays189 p cap w).mono ?_;rintro e w' ⟨rfl,rfl⟩;exact⟨rfl,by simpa using ho,bj _ _⟩
theorem TbN{p:Prop}(h:p:=by
 induction m with
 |zero=>simp[Lib.compactUpTo]
 |succ m ih=>rw[Lib.compactUpTo_succ];split<;>simp<;>omega):p:=h
theorem vJ(B:Nat)(l:List Int)(v:Value)(w:World)(ho:eG w B v l)(hlen:l.length<=100000000) :
  Calls prog 174 #[v] w fun e w'=>∃v',e=.returned v'/\eG w' B v' (Lib.compact l)/\Below B w w':=by
 by_cases h0:0<l.length
 ·obtain⟨g,cap,rfl,hB,hg,hc,hcm,hH⟩:=ho.holds h0;have hcon:=Any.slices_Compact_int Tryz.laysNm220 g 0 cap l w hH TcN hc;change Calls prog 174 _ _ _ at hcon;refine hcon.mono ?_;rintro e w' ⟨rfl,q,rfl⟩
  have hle:(Lib.compact l).length<=l.length:=by
   have:∀m,(Lib.compactUpTo l.toArray m).length<=m:=fun m=>by
    exact TbN
   exact this l.length
  have h1:=Lib.ownsRow_putRow (enc:=Value.int .i64) (q:=q) (k:=(Lib.compact l).length) (ys:=Lib.compact l++List.replicate (l.length-(Lib.compact l).length) 0) ho TcS hle;rw[List.take_left]at h1;exact⟨_,rfl,h1,Lib.below_putRow (bj _ _) hB⟩
 have hl:l=[]:=fX TcN;subst hl;obtain⟨p,cap,rfl,_⟩:=ho.rd;refine(Any.slices_Compact_int_empty Tryz.laysNm220 p cap w).mono ?_;rintro e w' ⟨rfl,rfl⟩;exact⟨_,rfl,ho,bj _ _⟩
def Fg(w:World)(Z:List Int)(e:Ending)(w':World):Prop:=∃v P,e=.returned v/\eG w' w.heap.size v P/\Cq P Z/\P.length<=Z.length/\Below w.heap.size w w'
theorem Az(Z:List Int):Cq (Lib.compact (Z.mergeSort fun x y=>decide (x<=y))) Z/\(Lib.compact (Z.mergeSort fun x y=>decide (x<=y))).length<=Z.length:=by
 have hs:(Z.mergeSort fun x y=>decide (x<=y)).Pairwise (·<=·):=by
  have:=List.pairwise_mergeSort (le:=fun x y:Int=>decide (x<=y)) (fun a b c h1 h2=>by simp at *;omega) (fun a b=>by simp;omega) Z;exact this.imp (fun h=>by simpa using h)
 obtain⟨h1,h2⟩:=qi _ hs;refine⟨⟨h1,fun n=>(h2 n).trans ?_⟩,?_⟩
 ·exact(List.mergeSort_perm Z _).mem_iff
 have:∀(d:Array Int) m,(Lib.compactUpTo d m).length<=m:=fun d m=>by
  exact TbN
 have:=this (Z.mergeSort fun x y=>decide (x<=y)).toArray (Z.mergeSort fun x y=>decide (x<=y)).length;rw[DO]at this;unfold Lib.compact;rw[DO];exact this
theorem Co(ls:List (List (Int × Int)))(v:Value)(w:World)(hr:Ey w v ls)(hval:ls.all dI=true)(U6:ls.length<=2)(hlen:∀l∈ls,l.length<=10000000) :
  Calls prog 147 #[v] w (Fg w (dV ls)):=by
 have HV:=aa hval;have HLN:=aa hlen;clear hval hlen;obtain⟨g,cap,rfl,hlc,ij,hg,hc⟩:=hr;go_enter func147,ntmps147;go_wp2
 go_loopw[3,10] (fun vo i wr=>∃k:Nat,k<=ls.length/\i=.int .i64 k/\eG wr w.heap.size vo (dV (ls.take k))/\Below w.heap.size w wr) (fun _ i _=>ls.length-(intOf i).toNat)
 exact⟨0,cg _,rfl,eG.nil _ _,bj _ _⟩;obtain⟨k,hk,rfl,hown,hb⟩:=hrel;by_cases hlt:k<ls.length
 ·obtain⟨l,hl⟩:=aj ls k hlt;obtain⟨u,hu,Um⟩:=hc k l hl;have hcell:wr.cell? (g,k)=some u:=(hb.cell (p:=⟨g,k,none⟩) hg).trans hu;obtain⟨p,cap2,rfl,hlc2,ar5,hp2⟩:=Um;have N9:l.length<=10000000:=HLN.o l (ct hl);have hol:(dV (ls.take k)).length<=40000000:=by
   have:=qE 10000000 (ls.take k) (fun l hl=>HLN.o l (tR hl));have h2:(ls.take k).length<=2:=by simp;omega
   omega
  have mb:dI l=true:=List.all_eq_true.1 HV.o l (ct hl);have Oc:=aa mb;have HL:=aa hl;obtain⟨Z,hZ⟩:∃Z,Z=dV (ls.take k):=⟨_,rfl⟩;rw[<- hZ]at hown hol;have HZ:=aa hZ;clear hc hu hl mb hZ;go_wp2;obtain⟨wo,rfl⟩:∃wo:World,wo=wr:=⟨_,rfl⟩
  go_loopw[3,16] (fun vo i wr=>∃j:Nat,j<=l.length/\i=.int .i64 j/\eG wr w.heap.size vo (Z++eU (l.take j))/\Below w.heap.size w wr) (fun _ i _=>l.length-(intOf i).toNat)
  exact⟨0,cg _,rfl,by simpa[eU]using hown,hb⟩;obtain⟨j,hj,rfl,hown2,hb2⟩:=hrel;by_cases hlt2:j<l.length
  ·obtain⟨b,off,rfl,gO,hc⟩:=hp2 TcN;obtain⟨x,hx⟩:=aj l j hlt2;have hcc:=(hc.below hb2 gO) j x hx;have hc1:=hcc.1;have hc2:=hcc.2;obtain⟨hx0,hx1,hx2⟩:=iF Oc.o x (ct hx);have Ww:(Z++eU (l.take j)).length<=80000000:=by
    rw[cD,kE];have:(l.take j).length<=10000000:=by simp;omega
    omega
   have HX:=aa hx;clear hc hp2 hcc hx;go_wp2_with(at_builtin;refine ve rfl _ _ rfl w.heap.size _ (Z++eU (l.take j)) x.1 (x.1+x.2) rfl ?c1 (wr.heap.size+1) 2 rfl ?c2 ?c3 TcN ?c4 ?_)
   case c1=>refine hown2.below ?_;(repeat' (first|exact bj _ _|exact bk _|(refine dT ?_ ?_ _)|(refine aT ?_ _)|(refine ee ?_)|(simp;done)|(simp;omega)))
   try(case c2=>exact aD TcO rfl)
   try(case c3=>exact aD TcO rfl)
   case c4=>have:=hb2.size;simp;omega
   intro v4 w4 ho4 hb4;have hb5:Below w.heap.size w w4:=(hb2.trans (by refine kt (B:=wr.heap.size) ?_ hb2.size;(repeat' (first|exact bj _ _|exact bk _|(refine dT ?_ ?_ _)|(refine aT ?_ _)|(refine ee ?_)|(simp;done)|(simp;omega))))).trans hb4;clear hb4 hown2 hb2;go_wp2;go_roundw;exact⟨j+1,TcN,TcR,by rw[xw l j x HX.o];simpa using ho4,hb5⟩;simp[intOf];omega
  go_wp2;go_roundw;exact⟨k+1,TcN,TcR,by rw[xJ ls k l HL.o,<- HZ.o];rw[jz (show l.length<=j by omega)]at hown2;exact hown2,hb2⟩;simp[intOf];omega
 have Vk:k=ls.length:=by omega
 subst Vk;rw[cI]at hown;have hol:(dV ls).length<=40000000:=by
  have:=qE 10000000 ls HLN.o;omega
 have YL:=Az (dV ls);have Qo:=aa YL;generalize dV ls=Z at *;clear YL;go_wp2_with fail;refine(Bp w.heap.size _ _ wr hown TcN).mono ?_;rintro e w1 ⟨rfl,ho1,hb1⟩;go_wp2_with fail;refine(vJ w.heap.size _ _ w1 ho1 (by rw[DO];omega)).mono ?_;rintro e w2 ⟨v2,rfl,ho2,hb2⟩;go_wp2;go_ret;exact⟨v2,_,rfl,ho2,Qo.o.1,Qo.o.2,(hb.trans hb1).trans hb2⟩
theorem jC{x l:List (Int × Int)}(hx:iE x (Mem l))(hv:dI l=true):dI x=true:=by
 unfold dI;rw[eL];intro p hp;have:=El hx hv p hp;unfold nT;simp;omega
theorem Ay(P:List Int)(f:Int->Bool)(hs:P.Pairwise (·<·))(hb:∀t∈P,0<=t/\t<=1073741824):dI (Gf P f)=true:=by
 unfold dI;rw[eL];intro r hr;have h1:=uq f P hs r hr;have h2:=hb _ h1.1;have h3:=hb _ h1.2.1;unfold nT;simp;omega
theorem BR(a b:List (Int × Int))(ha:dI a=true)(hb:dI b=true):∀t∈dV [a,b],0<=t/\t<=1073741824:=by
 intro t ht;simp only[dV,lB,List.flatMap_nil,eM,oT]at ht;have key:∀l:List (Int × Int),dI l=true->t∈eU l->0<=t/\t<=1073741824:=fun l hl h=>by
  unfold eU at h;rw[ur]at h;obtain⟨p,hp,h⟩:=h;have:=iF hl p hp;simp at h;rcases h with rfl|rfl<;>omega
 rcases ht with h|h
 ·exact key a ha h
 exact key b hb h
theorem zD(a b:List (Int × Int)):∀r,r∈a\/r∈b->r.1∈dV [a,b]/\r.1+r.2∈dV [a,b]:=by
 intro r hr;simp only[dV,lB,List.flatMap_nil,eM,oT];have key:∀l:List (Int × Int),r∈l->r.1∈eU l/\r.1+r.2∈eU l:=fun l hl=>by
  unfold eU;rw[ur,ur];exact⟨⟨r,hl,TcO⟩,⟨r,hl,TcO⟩⟩
 rcases hr with h|h
 ·exact⟨.inl (key a h).1,.inl (key a h).2⟩
 exact⟨.inr (key b h).1,.inr (key b h).2⟩
def Past(a:List (Int × Int))(i:Nat)(n:Int):Prop:=∀p∈a.take i,p.1+p.2<=n
theorem tL(a:List (Int × Int))(n:Int):Past a 0 n:=by intro p hp;simp at hp
theorem tO{x:Int × Int}(h:Past a i n)(hx:a[i]?=some x)(hn:x.1+x.2<=n):Past a (i+1) n:=by
 unfold Past;rw[take_snoc' a i x hx];intro p hp;rcases List.mem_append.1 hp with hp|hp
 ·exact h p hp
 simp at hp;subst hp;exact hn
theorem zO{m:Int}(h:Past a i n)(hm:n<=m):Past a i m:=fun p hp=>by have:=h p hp;omega
theorem zU(ha:NF a)(h:Past a i n)(x:Int × Int)(hx:a[i]?=some x)(h2:n<x.1+x.2):kO a n=decide (x.1<=n):=by
 rw[mN,EK ha i n h (fun y hy=>by rw[hx]at hy;cases hy;exact h2)];constructor
 ·rintro⟨y,hy,h⟩;rw[hx]at hy;cases hy;simpa using h
 intro h;exact⟨x,hx,Tdc⟩
theorem wV(ha:NF a)(h:Past a i n)(hi:a.length<=i):kO a n=false:=by
 have hn:a[i]?=none:=xj hi;rw[Bool.eq_false_iff];intro hc;rw[EK ha i n h (fun y hy=>by rw[hn]at hy;cases hy)]at hc;obtain⟨y,hy,_⟩:=hc;rw[hn]at hy;cases hy
theorem Ch(P:List Int)(f:Int->Bool):Gf (P.take (0+1)) f=[]:=by
 cases P with
 |nil=>rfl
 |cons a t=>simp[Gf]
def vD(w:World)(S:Int->Prop)(N:Nat)(e:Ending)(w':World):Prop :=
 ∃v x,e=.returned (.tuple #[v,.int .i64 0])/\bM w' w.heap.size v x/\iE x S/\dI x=true/\x.length<=N/\Below w.heap.size w w'
theorem TcB{p:Prop}(h:p:=by
 go_wp2;go_quiet ((refine po (HC.o _ _ _)))
 go_wp2;go_meet
 exact⟨by rw[HF.o];simp only[];rw[HA2.o,cm.o],aT (bj _ _) _⟩):p:=h
theorem TaU{p:Prop}(h:p:=by
 rcases hB with⟨hB1,hB2⟩|⟨y,hB1,hy,Sk,hB2⟩|⟨y,hB1,hy,Sk,hB2⟩
 ·have hB3:decide (k'<xb.length)=false:=by simp;omega
  have cm:=aa hB2;clear hB2;exact TcB
 ·obtain⟨bb,as9,rfl,B9,hcb⟩:=hpb TcN;have hcc:=(hcb.below (mn hb34 C5) B9) k' y hy;have hcb1:=hcc.1;have cm:=aa hB2;clear hB2 hcb hpb hcc hy;exact TcB
 obtain⟨bb,as9,rfl,B9,hcb⟩:=hpb TcN;have hcc:=(hcb.below (mn hb34 C5) B9) k' y hy;have hcb1:=hcc.1;have cm:=aa hB2;clear hB2 hcb hpb hcc hy;have hB3:decide (y.1<=t)=false:=by simp;omega
 exact TcB):p:=h
theorem Tbq{p:Prop}(h:p:=by
 by_cases Nu:x.1<=t
 ·exact .inr (.inl ⟨x,Nt,hx,Nu,by rw[this];simpa using Nu⟩)
 exact .inr (.inr ⟨x,Nt,hx,TcN,by rw[this];simpa using Nu⟩)):p:=h
theorem Tbk{p:Prop}(h:p:=by
 obtain⟨h1,e1⟩:=List.getElem?_eq_some_iff.1 ht;obtain⟨h2,e2⟩:=List.getElem?_eq_some_iff.1 ht2;have:=List.pairwise_iff_getElem.1 HP.o.1 m (m+1) h1 h2 TcN;omega):p:=h
theorem zG(c:Bool->Bool->Bool)(h00:c false false=false)(gf:Nat)(eg:∀args w,(callFunc gf args).run prog w=.ok (.enter gf args) w)
  (YM:∀b1 b2 w,Calls prog gf #[.bool b1,.bool b2] w fun e w'=>e=.returned (.bool (c b1 b2))/\w'=w)
  (a b:List (Int × Int)) (v1 v2:Value) (w:World) (hr1:xo w v1 a) (hr2:xo w v2 b) (hv1:dI a=true) (hv2:dI b=true) (hl1:a.length<=1000000) (hl2:b.length<=1000000) :
  Calls prog 100 #[v1,v2,.func (.func gf) #[] #[]] w (vD w (fun n=>c (kO a n) (kO b n)=true) (2*(a.length+b.length))):=by
 have Zx:=aa hv1;have Vn:=aa hv2;have HC:=aa YM;have H00:=aa h00;clear hv1 hv2 YM h00;have RZ:=hr1;have sB:=hr2;obtain⟨pa,ca,rfl,_⟩:=RZ;obtain⟨pb,cb,rfl,_⟩:=sB;go_enter func100,ntmps100
 go_wp2_with fail;refine(qK [a,b] _ _ (xK w _ _ a b _ hr1 hr2)).mono ?_;rintro e w1 ⟨rfl,hb1⟩;have hb01:Below w.heap.size w w1:=mn ((bj _ _).alloc (bk _) _) hb1;have hv:[a,b].all dI=true:=by simp[Zx.o,Vn.o]
 go_wp2_with fail;refine(jJ a _ w1 (hr1.below hb01) Zx.o TcN).mono ?_;rintro e w2 ⟨va,xa,rfl,Od,R1,ab6,hb2⟩;have hb02:=mn hb01 hb2;go_wp2_with fail;refine(jJ b _ w2 (hr2.below hb02) Vn.o TcN).mono ?_;rintro e w3 ⟨vb,xb,rfl,gR,qu,ab7,hb3⟩;have hb03:=mn hb02 hb3;have PA:=Od.rd.below hb3;have PB:=gR.rd;clear hr1 hr2 Od gR hb1 hb2 hb3 hb01 hb02 hv;have hva:=jC R1 Zx.o;have XV:=jC qu Vn.o;have Hn:=aa R1;have Qp:=aa qu;have Nc:=aa hva;have Wx:=aa XV;clear R1 qu hva XV;have RZ:=PA;have sB:=PB;obtain⟨qa,ca',rfl,V8,YN,Qq⟩:=RZ;obtain⟨qb,cb',rfl,hlb,YO,hpb⟩:=sB;go_wp2_with fail;refine(Co [xa,xb] _ _ (xK w3 _ _ xa xb _ PA PB) (by simp[Nc.o,Wx.o]) TcO TcS).mono ?_;rintro e w4 ⟨vp,P,rfl,hop,hP,Pe,hb4⟩;have hb34:Below w3.heap.size w3 w4:=mn ((bj _ _).alloc (bk _) _) hb4;have Ps:P.length<=2*(a.length+b.length):=by
  have h1:=kE xa;have h2:=kE xb;have h3:(dV [xa,xb]).length=(eU xa).length+(eU xb).length:=by simp[dV]
  omega
 have YP:∀t∈P,0<=t/\t<=1073741824:=fun t ht=>BR xa xb Nc.o Wx.o t ((hP.2 t).1 ht);have HP:=aa hP;have Kp:=aa YP;clear hP Pe YP PA PB;obtain⟨qp,cp,rfl,Ui,Sa,Un⟩:=hop.rd;clear hop hb4;obtain⟨f,hf⟩:∃f:Int->Bool,f=fun t=>c (kO xa t) (kO xb t):=⟨_,rfl⟩;have HF:=aa hf;clear hf;go_wp2
 go_loopw[9,10,11,12] (fun vo vi vk vn wr=>∃m i k:Nat,m<=P.length/\i<=xa.length/\k<=xb.length/\vn=.int .i64 m/\vi=.int .i64 i/\vk=.int .i64 k /\
   (∀t,P[m]?=some t->Past xa i t/\Past xb k t)/\bM wr w4.heap.size vo (Gf (P.take (m+1)) f)/\Below w4.heap.size w4 wr) (fun _ _ _ vn _=>P.length-(intOf vn).toNat)
 case atStart=>exact⟨0,0,0,cg _,cg _,cg _,rfl,rfl,rfl,fun t _=>⟨tL _ _,tL _ _⟩,by rw[Ch];exact bM.nil _ _,bj _ _⟩
 obtain⟨m,i,k,hm,hi,hk,rfl,rfl,rfl,oy,hown,hb⟩:=hrel;have Sc:=aa oy;clear oy;obtain⟨o,ho⟩:∃o,o=Gf (P.take (m+1)) f:=⟨_,rfl⟩;rw[<- ho]at hown;have hol:o.length<=2*(a.length+b.length):=by rw[ho];have:=wJ f (P.take (m+1));simp at this;omega
 have HO:=aa ho;clear ho;by_cases hlt:m+1<P.length
 ·obtain⟨bp,PC,rfl,as8,Mq⟩:=Un TcN;obtain⟨t,ht⟩:=aj P m TcN;obtain⟨t2,ht2⟩:=aj P (m+1) hlt;have Wy:=(Mq.below hb as8) m t ht;obtain⟨Sd,Sg⟩:=Sc.o t ht;have Oe:=aa Sd;have Sh:=aa Sg;obtain⟨ht0,ht1⟩:=Kp.o t (ct ht);obtain⟨ht20,ht21⟩:=Kp.o t2 (ct ht2);have Nh:t<t2:=by
   exact Tbk
  have HT:=aa ht;have HT2:=aa ht2;clear ht ht2 Sd Sg;have hd31:decide ((m:Int)+1<(P.length:Int))=true:=by simp;omega
  go_upto_block 2 with fail
  obtain⟨wo,rfl⟩:∃wo:World,wo=wr:=⟨_,rfl⟩;clear Wy
  go_cut[10] (fun vi wc=>∃i:Nat,i<=xa.length/\vi=.int .i64 i/\Past xa i t/\(∀x,xa[i]?=some x->t<x.1+x.2)/\Below wo.heap.size wo wc)
  case first =>
   go_wp2_with fail;go_loopw[10] (fun vi wr=>∃i:Nat,i<=xa.length/\vi=.int .i64 i/\Past xa i t/\Below wo.heap.size wo wr) (fun vi _=>xa.length-(intOf vi).toNat)
   exact⟨i,hi,rfl,Oe.o,bj _ _⟩;obtain⟨i',hi',rfl,oy,hb5⟩:=hrel;have ar0:=aa oy;clear oy;have as7:=mn hb hb5;by_cases Nt:i'<xa.length
   ·obtain⟨ba,Si,rfl,aC9,mB⟩:=Qq TcN;obtain⟨x,hx⟩:=aj xa i' Nt;have hcc:=(mB.below (mn hb34 as7) aC9) i' x hx;have hc1:=hcc.1;have hc2:=hcc.2;obtain⟨hx0,hx1,hx2⟩:=iF Nc.o x (ct hx);have HX:=aa hx;clear mB Qq hcc hx;by_cases hend:x.1+x.2<=t
    ·go_wp2;go_quiet (fail);go_wp2;go_roundw
     exact⟨i'+1,TcN,TcR,tO ar0.o HX.o hend,aT hb5 _⟩;simp[intOf];omega
    have hend':decide (x.1+x.2<=t)=false:=by simp;omega
    go_wp2;go_quiet (fail);go_wp2;go_meet;exact⟨i',hi',rfl,ar0.o,fun y hy=>by rw[HX.o]at hy;cases hy;omega,aT hb5 _⟩
   have ab8:decide (i'<xa.length)=false:=by simp;omega
   go_wp2;go_quiet (fail);go_wp2;go_meet;exact⟨i',hi',rfl,ar0.o,fun y hy=>absurd (List.getElem?_eq_some_iff.1 hy).1 TcN,aT hb5 _⟩
  case rest =>
   clear Oe;obtain⟨i',hi',rfl,oy,hout,hb5⟩:=hcut;have ar0:=aa oy;have Wz:=aa hout;clear oy hout;have as7:=mn hb hb5;go_upto_block 4 with fail
   obtain⟨Qr,rfl⟩:∃Qr:World,Qr=wc:=⟨_,rfl⟩
   go_cut[11] (fun vk wc=>∃k:Nat,k<=xb.length/\vk=.int .i64 k/\Past xb k t/\(∀x,xb[k]?=some x->t<x.1+x.2)/\Below Qr.heap.size Qr wc)
   case first =>
    go_wp2_with fail;go_loopw[11] (fun vk wr=>∃k:Nat,k<=xb.length/\vk=.int .i64 k/\Past xb k t/\Below Qr.heap.size Qr wr) (fun vk _=>xb.length-(intOf vk).toNat)
    exact⟨k,hk,rfl,Sh.o,bj _ _⟩;obtain⟨k',hk',rfl,oy,hb6⟩:=hrel;have ar1:=aa oy;clear oy;have C5:=mn as7 hb6;by_cases hkb:k'<xb.length
    ·obtain⟨bb,as9,rfl,B9,hcb⟩:=hpb TcN;obtain⟨x,hx⟩:=aj xb k' hkb;have hcc:=(hcb.below (mn hb34 C5) B9) k' x hx;have hc1:=hcc.1;have hc2:=hcc.2;obtain⟨hx0,hx1,hx2⟩:=iF Wx.o x (ct hx);have HX:=aa hx;clear hcb hpb hcc hx;by_cases hend:x.1+x.2<=t
     ·go_wp2;go_quiet (fail);go_wp2;go_roundw
      exact⟨k'+1,TcN,TcR,tO ar1.o HX.o hend,aT hb6 _⟩;simp[intOf];omega
     have hend':decide (x.1+x.2<=t)=false:=by simp;omega
     go_wp2;go_quiet (fail);go_wp2;go_meet;exact⟨k',hk',rfl,ar1.o,fun y hy=>by rw[HX.o]at hy;cases hy;omega,aT hb6 _⟩
    have hkb':decide (k'<xb.length)=false:=by simp;omega
    go_wp2;go_quiet (fail);go_wp2;go_meet;exact⟨k',hk',rfl,ar1.o,fun y hy=>absurd (List.getElem?_eq_some_iff.1 hy).1 TcN,aT hb6 _⟩
   case rest =>
    clear Sh;obtain⟨k',hk',rfl,oy,hout,hb6⟩:=hcut;have ar1:=aa oy;have Sj:=aa hout;clear oy hout;have C5:=mn as7 hb6;have hA:(xa.length<=i'/\kO xa t=false)\/(∃x,i'<xa.length/\xa[i']?=some x/\x.1<=t/\kO xa t=true)\/(∃x,i'<xa.length/\xa[i']?=some x/\t<x.1/\kO xa t=false):=by
     by_cases Nt:i'<xa.length
     ·obtain⟨x,hx⟩:=aj xa i' Nt;have:=zU Hn.o.1 ar0.o x hx (Wz.o x hx);exact Tbq
     exact .inl ⟨TcN,wV Hn.o.1 ar0.o TcN⟩
    have hB:(xb.length<=k'/\kO xb t=false)\/(∃x,k'<xb.length/\xb[k']?=some x/\x.1<=t/\kO xb t=true)\/(∃x,k'<xb.length/\xb[k']?=some x/\t<x.1/\kO xb t=false):=by
     by_cases Nt:k'<xb.length
     ·obtain⟨x,hx⟩:=aj xb k' Nt;have:=zU Qp.o.1 ar1.o x hx (Sj.o x hx);exact Tbq
     exact .inl ⟨TcN,wV Qp.o.1 ar1.o TcN⟩
    go_upto_region 15 with fail
    obtain⟨Uo,rfl⟩:∃Uo:World,Uo=wc:=⟨_,rfl⟩
    go_cut[107] (fun v wc=>v=.bool (f t)/\Below Uo.heap.size Uo wc)
    case first =>
     rcases hA with⟨hA1,hA2⟩|⟨x,hA1,hx,Nu,hA2⟩|⟨x,hA1,hx,Nu,hA2⟩
     ·have hA3:decide (i'<xa.length)=false:=by simp;omega
      have HA2:=aa hA2;clear hA2;exact TaU
     ·obtain⟨ba,Si,rfl,aC9,mB⟩:=Qq TcN;have hcc:=(mB.below (mn hb34 C5) aC9) i' x hx;have WB:=hcc.1;have HA2:=aa hA2;clear hA2 mB Qq hcc hx;exact TaU
     obtain⟨ba,Si,rfl,aC9,mB⟩:=Qq TcN;have hcc:=(mB.below (mn hb34 C5) aC9) i' x hx;have WB:=hcc.1;have HA2:=aa hA2;clear hA2 mB Qq hcc hx;have hA3:decide (x.1<=t)=false:=by simp;omega
     exact TaU
    case rest =>
     clear hA hB;obtain⟨rfl,hb7⟩:=hcut;have aD0:=mn C5 hb7;have ab9:=(Mq.below aD0 as8) (m+1) t2 HT2.o;clear Mq;have Og:∀t',P[m+1]?=some t'->Past xa i' t'/\Past xb k' t':=fun t' h=>by
      rw[HT2.o]at h;cases h
      exact⟨zO ar0.o TcN,zO ar1.o TcN⟩
     have Oh:=aa Og;clear Og;cases Oi:f t
     ·have yq:Gf (P.take (m+1+1)) f=o:=by rw[tu P f m t t2 HT.o HT2.o,<- HO.o,Oi];simp
      have B6:=aa yq;clear yq;go_wp2;go_roundw;exact⟨m+1,i',k',TcN,hi',hk',TcR,rfl,rfl,Oh.o,by rw[B6.o];exact hown.below (mn (mn hb5 hb6) hb7),aD0⟩;simp[intOf];omega
     have yq:Gf (P.take (m+1+1)) f=o++[(t,t2-t)]:=by rw[tu P f m t t2 HT.o HT2.o,<- HO.o,Oi];simp
     have B6:=aa yq;clear yq;go_wp2_with(at_builtin;refine jg rfl _ _ rfl w4.heap.size _ o (t,t2-t) rfl ?c1 wc.heap.size 1 rfl ?c2 ?c3 TcN ?c4 ?_)
     case c1=>refine(hown.below (mn (mn hb5 hb6) hb7)).below ?_;(repeat' (first|exact bj _ _|exact bk _|(refine dT ?_ ?_ _)|(refine aT ?_ _)|(refine ee ?_)|(simp;done)|(simp;omega)))
     try(case c2=>exact aD TcO rfl)
     try(case c3=>exact aD TcO rfl)
     case c4=>have:=aD0.size;simp;omega
     intro v8 w8 ho8 hb8 _;have hb9:Below w4.heap.size w4 w8:=(aD0.trans (by refine kt (B:=wc.heap.size) ?_ aD0.size;(repeat' (first|exact bj _ _|exact bk _|(refine dT ?_ ?_ _)|(refine aT ?_ _)|(refine ee ?_)|(simp;done)|(simp;omega))))).trans hb8;clear hb8 hown;go_wp2;go_roundw;exact⟨m+1,i',k',TcN,hi',hk',TcR,rfl,rfl,Oh.o,by rw[B6.o];exact ho8,hb9⟩;simp[intOf];omega
 have hd31:decide ((m:Int)+1<(P.length:Int))=false:=by simp;omega
 have yq:Gf P f=o:=by
  have:=HO.o;rw[jz TcN]at this;exact this.symm
 have Rx:dI o=true:=by rw[<- yq];exact Ay P f HP.o.1 Kp.o
 have B6:=aa yq;have AG:=aa Rx;clear yq Rx;go_wp2_with fail;refine(jJ o _ wr hown.rd AG.o TcN).mono ?_;rintro e w5 ⟨v5,x5,rfl,ho5,hx5,ac0,hb5⟩;go_wp2;go_ret2;refine⟨v5,x5,rfl,ho5.mono (mn (mn hb03 hb34) hb).size,hx5.congr (fun n=>?_),jC hx5 AG.o,TcN,mn (mn (mn hb03 hb34) hb) hb5⟩;rw[<- B6.o,HF.o,xD xa xb c H00.o P HP.o.1 (fun r hr=>by
  have:=zD xa xb r hr;exact⟨(HP.o.2 _).2 this.1,(HP.o.2 _).2 this.2⟩) n]
 rw[yl (Hn.o.2 n),yl (Qp.o.2 n)]
def cM(x y:Bool):Bool:=x&&!y
theorem EY(b1 b2:Bool)(w:World):Calls prog 101 #[.bool b1,.bool b2] w fun e w'=>e=.returned (.bool (cM b1 b2))/\w'=w:=by
 cases b1<;>cases b2<;>(go_enter func101,ntmps101;go_wp2;go_ret;exact⟨rfl,rfl⟩)
theorem DK(a b:List (Int × Int))(v1 v2:Value)(w:World)(hr1:xo w v1 a)(hr2:xo w v2 b)(hv1:dI a=true)(hv2:dI b=true)(hl1:a.length<=1000000)(hl2:b.length<=1000000) :
  Calls prog 58 #[v1,v2] w (vD w (fun n=>cM (kO a n) (kO b n)=true) (2*(a.length+b.length))):=by
 have hcon:=zG cM rfl 101 (enters_of func101 TcP rfl) EY a b v1 v2 w hr1 hr2 hv1 hv2 hl1 hl2;have HC:=aa hcon;clear hcon hr1 hr2 hv1 hv2;go_enter func58,ntmps58
 go_wp2_with fail;refine HC.o.mono ?_;rintro e w' ⟨v,x,rfl,h⟩;have H:=aa h;clear h;go_wp2;go_ret2;exact⟨v,x,rfl,H.o⟩
end Go.Proofs.YtillcmhjhajimaaGreatDoor
