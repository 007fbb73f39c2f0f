/- Lemmas: ModZd, ModZe. -/
import Derived.Test.YtjdfihglehfelaaGreatDoorPf25
set_option maxRecDepth 100000
set_option maxHeartbeats 32000000
set_option linter.all false
namespace Go.Proofs.YtjdfihglehfelaaGreatDoor
open Go.Proofs.Tryz
open Go.RowKit Go.Maps Go.Shelf
theorem sS {f:ay->Int}:∀ {l:List ay},(iM f l).2=0->∀ v∈l,f v=0
 | [],_,v,hv=>by cases hv
 | x :: l,h,v,hv=>by
  unfold iM at h;split at h
  ·rename_i hx
   rcases List.mem_cons.1 hv with rfl | hv
   ·exact hx
   ·exact sS h v hv
  ·rename_i hx
   exact absurd h hx
theorem ll {α:Type}{nm:α->ByteArray}{f:Nat->α->Int}:∀ {l:List α} {i:Nat},(gZ nm f i l).2=0->∀ (j:Nat) (x:α),l[j]?=some x->f (i+j) x=0
 | [],_,_,j,x,hx=>by cases hx
 | y :: l,i,h,j,x,hx=>by
  unfold gZ at h;split at h
  ·rename_i hy
   match j,hx with
   | 0,hx =>
    obtain rfl:y=x:=by simpa using hx
    exact hy
   | j+1,hx =>
    have:=ll h j x (by simpa using hx)
    rwa [show i+1+j=i+(j+1) by omega] at this
  ·rename_i hy
   exact absurd h hy
theorem wP {E:List (ay × aB)->ay->aB->Int}:∀ {l pre:List (ay × aB)},(bD E pre l).2=0->∀ (a b:List (ay × aB)) (v:ay) (s:aB),l=a++(v,s) :: b->E (pre++a) v s=0
 | [],_,_,a,b,v,s,e=>by simp at e
 | (v0,s0) :: l,pre,h,a,b,v,s,e=>by
  unfold bD at h;split at h
  ·rename_i h0
   match a,e with
   | [],e =>
    simp only [List.nil_append,rp,Prod.mk.injEq] at e;obtain ⟨⟨rfl,rfl⟩,_⟩:=e;rw [eM];exact h0
   | x :: a,e =>
    simp only [List.cons_append,rp] at e;obtain ⟨rfl,e⟩:=e;have:=wP h a b v s e
    rwa [cV] at this
  ·rename_i h0
   exact absurd h h0
structure NL (g:af):Prop where
 tx:UT g
 sz:JT g
 kw:Ct g
 st:∀ v∈g.F9,∀ s∈v.Gf,s.log.size<=9223372036854775807/\s.pool.size<=9223372036854775807/\(∀ a∈s.Ga,a.on.size<=9223372036854775807)/\(Lit.int .i64 s.device).wf=true
variable {g:af}
theorem iT (h:(dZ g).2=0):lm g/\iR g:=by
 have h':qX g=0:=h;unfold qX at h';split at h'
 ·cases h'
 ·split at h'
  ·cases h'
  ·rename_i h1
   split at h'
   ·cases h'
   ·rename_i h2
    exact ⟨Decidable.not_not.1 h1,Decidable.not_not.1 h2⟩
theorem nG (h:(dw g).2=0):(g.Gb.map (·.name)).Nodup/\∀ d∈g.Gb,jQ g d/\jo d.name=true:=by
 have hE:∀ (j:Nat) (d:az),g.Gb[j]?=some d->pg g j d=0:=fun j d hd=>by
  have:=ll (i:=0) h j d hd
  rwa [eJ] at this
 have hS:∀ (j:Nat) (d:az),g.Gb[j]?=some d->(g.Gb.take j).any (dG d)=false/\jQ g d/\jo d.name=true:=fun j d hd=>by
  have:=hE j d hd;unfold pg at this;split at this
  ·cases this
  ·rename_i h0
   split at this
   ·cases this
   ·rename_i h1
    split at this
    ·cases this
    ·rename_i h2
     exact ⟨Bool.eq_false_iff.2 h1,Decidable.not_not.1 h2,by simpa using h0⟩
 constructor
 ·rw [List.nodup_iff_pairwise_ne,List.pairwise_iff_getElem]
  intro i j hi hj OG e;rw [fW] at hi hj;rw [List.getElem_map,List.getElem_map] at e;have h1:=(hS j g.Gb[j] (lO hj)).1;rw [List.any_eq_false] at h1;refine h1 g.Gb[i] (List.mem_iff_getElem.2 ⟨i,by rw [ey];omega,by rw [List.getElem_take]⟩) ?_;simp [dG,e]
 ·intro d hd
  obtain ⟨j,hj⟩:=fc hd;exact (hS j d hj).2
theorem oo {s:ByteArray}(h:jo s=true):s.size<=24:=by
 unfold jo at h;simp only [eh,fk] at h;exact h.1.2
theorem za {v:ay}(h:nE v=true):v.name.size<=40:=by
 unfold nE at h;split at h
 ·unfold zH at h
  simp only [eh,fk] at h;exact h.1.2
 ·have:=oo h
  omega
theorem nH (h:(dJ g).2=0):∀ v∈g.F9,nE v=true/\v.name.size<=40/\1<=v.Gf.length/\v.Gf.length<=64:=fun v hv=>by
 obtain ⟨j,hj⟩:=fc hv;have:=ll (i:=0) h j v hj;rw [eJ] at this;unfold yH at this;split at this
 ·cases this
 ·rename_i h0
  split at this
  ·cases this
  ·split at this
   ·cases this
   ·rename_i h2
    have h0':nE v=true:=by simpa using h0
    exact ⟨h0',za h0',Decidable.not_not.1 h2⟩
theorem xz {ext:Int}{n:Nat}:∀ {l:List aB} {st:Int},qV ext n l st=0->∀ s∈l,∃ st',bJ ext s st'=true
 | [],_,_,s,hs=>by cases hs
 | x :: l,st,h,s,hs=>by
  unfold qV at h;split at h
  ·cases h
  ·rename_i h0
   split at h
   ·cases h
   ·rcases List.mem_cons.1 hs with rfl | hs
    ·exact ⟨st,by simpa using h0⟩
    ·exact xz h s hs
theorem qP (h:(iP g).2=0):∀ v∈g.F9,∀ s∈v.Gf,∃ st,bJ g.Gd s st=true:=fun v hv s hs=>xz (sS h v hv) s hs
theorem CK {k:Int}{x:eX}(h:shapeOf k=some x):0<=x.least/\x.greatest<=6/\(k=2->x.least=2)/\(k=3->x.chunk=1024)/\(k=4->x.least=3)/\(k=5->x.least=2)/\(k=7->x.least=3):=by
 have hk:k=1\/k=2\/k=3\/k=4\/k=5\/k=6\/k=7\/k=8\/k=9\/k=10:=by
  refine Decidable.byContradiction fun q=>?_;simp only [not_or] at q;obtain ⟨q1,q2,q3,q4,q5,q6,q7,q8,q9,q10⟩:=q;unfold shapeOf at h;rw [bh q1,bh q2,bh q3,bh q4,bh q5,bh q6,bh q7,bh q8,bh q9,bh q10] at h;cases h
 rcases hk with rfl | rfl | rfl | rfl | rfl | rfl | rfl | rfl | rfl | rfl <;> cases h <;> decide
theorem vT {ext:Int}{s:aB}{st:Int}(h:bJ ext s st=true):Ah s/\1<=aX s/\(s.kind=2->2<=s.Ga.length):=by
 cases hs:shapeOf s.kind with
 | none=>rw [jT hs] at h;cases h
 | some x =>
  have hx:=CK hs;rw [jP hs] at h;simp only [eh,fk] at h;obtain ⟨⟨⟨⟨⟨⟨⟨⟨⟨⟨⟨⟨⟨⟨-,h1⟩,h2⟩,h3⟩,h4⟩,-⟩,h6⟩,-⟩,-⟩,-⟩,-⟩,-⟩,-⟩,h13⟩,-⟩:=h;obtain ⟨x1,x2,x3,x4,x5,x6,x7⟩:=hx;have hk2:s.kind=2->2<=s.Ga.length:=fun e=>by have:=x3 e;omega
  refine ⟨⟨⟨h1,h2,by omega,fun e=>by have:=x6 e;omega,fun e=>by have:=x7 e;omega⟩,fun e=>?_,fun e=>by have:=x5 e;omega⟩,?_,hk2⟩
  ·have hc:=x4 e
   unfold fq at h6;rw [hc] at h6;simpa using h6
  ·unfold aX iB
   split
   ·rename_i he
    have h13':s.length % (s.Ga.length:Int)=0:=by
     cases hq:(s.kind == 2) with
     | true=>rw [hq] at h13;simpa using h13
     | false=>simp [he.1] at hq
    have h2a:=hk2 he.1
    have:0<s.length / (s.Ga.length:Int):=by
     refine Decidable.byContradiction fun q=>?_;have e0:=Int.emod_add_mul_ediv s.length s.Ga.length;have:(s.Ga.length:Int)*(s.length / (s.Ga.length:Int))<=0:=Int.mul_nonpos_of_nonneg_of_nonpos (by omega) (by omega);omega
    omega
   ·omega
theorem zm (hi:NL g)(h1:(dZ g).2=0)(h2:(dw g).2=0)(h3:(dJ g).2=0)(h4:(iP g).2=0):UQ g:=by
 obtain ⟨r1,r2⟩:=iT h1
 exact ⟨hi.sz,fun d hd=>by have:=((nG h2).2 d hd).1;unfold jQ at this;omega,⟨r1.2.2.1,r1.2.2.2.1⟩,fun v hv=>by have:=(nH h3 v hv).2.1;omega,fun v hv s hs=>by
  obtain ⟨st,h⟩:=qP h4 v hv s hs
  exact (vT h).1.fm⟩
theorem mZ (h4:(iP g).2=0):∀ v∈g.F9,∀ s∈v.Gf,Ah s:=fun v hv s hs=>by
 obtain ⟨st,h⟩:=qP h4 v hv s hs;exact (vT h).1
theorem zW:∀ (l:List aB) (n:Int),(∀ s∈l,s.length<=32768)->0<=n->l.foldl (fun n s=>fF n s.length) n<=n+32768*(l.length:Int)
 | [],n,_,_=>by simp
 | s :: l,n,h,h0=>by
  have h1:=lT n s.length h0
  have h2:fF n s.length<=n+32768:=by
   have:=h s (cG ..);unfold fF;omega
  have:=zW l (fF n s.length) (fun x hx=>h x (kn _ hx)) h1.1;rw [cF,cS];omega
theorem Cg (h3:(dJ g).2=0)(h4:(iP g).2=0):Cu g:=fun nm=>by
 unfold dO;cases hf:aM g.F9 nm with
 | none=>exact ⟨by decide,by decide⟩
 | some v =>
  have hv:=eV hf;have h1:=uZ v.Gf 0 (by omega) (by omega);have h2:=zW v.Gf 0 (fun s hs=>(mZ h4 v hv s hs).fm.l1) (by omega);have h5:=(nH h3 v hv).2.2.2;show 0<=C8 v/\C8 v<=10000000;unfold C8;omega
theorem qo (hl:iR g)(h3:(dJ g).2=0):(aA g.F9).length<=2048:=by
 have:∀ l:List ay,(∀ v∈l,v.Gf.length<=64)->(aA l).length<=64*l.length:=by
  intro l
  induction l with
  | nil=>intro _;simp [aA]
  | cons v l ih =>
   intro h;have h1:=ih fun x hx=>h x (kn _ hx);have h2:=h v (cG ..);unfold aA at h1 ⊢;rw [lB,cD,fW,cS];omega
 have h1:=this g.F9 fun v hv=>(nH h3 v hv).2.2.2;have:=hl.2.1;omega
theorem zZ {v:ay}{s:aB}(h:mM g v s=0):jw g s=true/\s.Ga.all (fI g s)=true/\jS v s=true/\(s.kind=6->eZ ((aM g.F9 s.pool).getD eY)=5)/\(dD s false).any (dh g)=false:=by
 unfold mM at h;split at h
 ·cases h
 ·rename_i h1
  split at h
  ·cases h
  ·rename_i h2
   split at h
   ·cases h
   ·rename_i h3
    split at h
    ·cases h
    ·rename_i h4
     split at h
     ·cases h
     ·rename_i h5
      exact ⟨by simpa using h1,by simpa using h2,by simpa using h3,fun e=>Decidable.byContradiction fun q=>h4 ⟨e,q⟩,Bool.eq_false_iff.2 h5⟩
theorem Dh (h:(mY g).2=0):∀ v∈g.F9,∀ s∈v.Gf,mM g v s=0:=fun v hv s hs=>by
 have:(v,s)∈aA g.F9:=List.mem_flatMap.2 ⟨v,hv,List.mem_map.2 ⟨s,hs,rfl⟩⟩;obtain ⟨a,b,e⟩:=List.append_of_mem this;exact wP h a b v s e
theorem Er (hi:NL g)(h1:(dZ g).2=0)(h2:(dw g).2=0)(h3:(dJ g).2=0)(h4:(iP g).2=0)(h5:(mY g).2=0):FL g:=by
 obtain ⟨r1,r2⟩:=iT h1;refine ⟨(nG h2).1,fun d hd=>?_,hi.sz.dl,fun v hv s hs=>?_,by have:=qo r2 h3;omega⟩
 ·have:=oo ((nG h2).2 d hd).2
  unfold maxLen;omega
 ·obtain ⟨st,h⟩:=qP h4 v hv s hs
  obtain ⟨f1,f2,f3⟩:=vT h;obtain ⟨q1,q2,q3,q4,q5⟩:=zZ (Dh h5 v hv s hs);obtain ⟨m1,m2,m3,m4⟩:=hi.st v hv s hs;refine ⟨f1.fm,f2,fun a ha pS=>⟨by unfold maxLen;exact m3 a ha,?_⟩,by unfold maxLen;exact m2,m4⟩;unfold jw at q1;rw [eh,eL,eL] at q1;have e1:=q1.1 a ha;rw [pS,nj] at e1;obtain ⟨d,hd⟩:=Option.isSome_iff_exists.1 e1;have e2:=List.all_eq_true.1 q2 a ha;unfold fI at e2;rw [pS,nj,hd] at e2;simp only [eh,fk,Option.getD_some] at e2;exact ⟨d,hd,e2.1.1,e2.2⟩
theorem yB (hi:NL g):∀ v∈g.F9,∀ s∈v.Gf,∀ pool,∀ x∈dD s pool,x.size<=maxLen:=fun v hv s hs pool x hx=>by
 obtain ⟨m1,m2,m3,m4⟩:=hi.st v hv s hs;unfold maxLen;unfold dD at hx;rcases List.mem_append.1 hx with hx | hx
 ·rcases List.mem_append.1 hx with hx | hx
  ·obtain ⟨a,ha,rfl⟩:=List.mem_map.1 hx
   exact m3 a ((List.mem_filter.1 ha).1)
  ·split at hx
   ·cases hx
   ·obtain rfl:=List.mem_singleton.1 hx
    exact m1
 ·split at hx
  ·obtain rfl:=List.mem_singleton.1 hx
   exact m2
  ·cases hx
theorem Ao (hl:iR g)(h3:(dJ g).2=0)(h4:(iP g).2=0)(pool:Bool):(dA (aA g.F9) pool).length<=1000000:=by
 have:∀ l:List (ay × aB),(∀ p∈l,p.2.Ga.length<=6)->(dA l pool).length<=8*l.length:=by
  intro l
  induction l with
  | nil=>intro _;simp [dA]
  | cons p l ih =>
   intro h;have h1:=ih fun x hx=>h x (kn _ hx);have h2:=h p (cG ..)
   have h3:(dD p.2 pool).length<=p.2.Ga.length+2:=by
    unfold dD;rw [cD,cD,fW];have:=tk (fun a:aR=>a.vol) p.2.Ga;split <;> split <;> simp <;> omega
   unfold dA at h1 ⊢;rw [lB,cD,cS];omega
 have h1:=this (aA g.F9) fun p hp=>by
  obtain ⟨v,hv,hp⟩:=List.mem_flatMap.1 hp;obtain ⟨s,hs,rfl⟩:=List.mem_map.1 hp;exact (mZ h4 v hv s hs).fm.ar
 have h2:=qo hl h3;omega
def oW:List (ByteArray × Int)->ByteArray × Int
 | []=>(⟨#[]⟩,0)
 | r :: l=>if r.2=0 then oW l else r
def pM (g:af):ByteArray × Int:=oW [dZ g,dw g,dJ g,iP g,mY g,qG g,pE g,rY g]
end Go.Proofs.YtjdfihglehfelaaGreatDoor
namespace Go.Proofs.YtjdfihglehfelaaGreatDoor
open Go.Proofs.Tryz
open Go.RowKit Go.Maps Go.Shelf
def aZ (g:af):List (ByteArray × Int):=[dZ g,dw g,dJ g,iP g,mY g,qG g,pE g,rY g]
theorem Ez (g:af):pM g=oW (aZ g):=rfl
theorem gW {l:List (ByteArray × Int)}{k:Nat}{r:ByteArray × Int}(h:l[k]?=some r):oW (l.drop k)=if r.2=0 then oW (l.drop (k+1)) else r:=by
 rw [drop_at h];rfl
theorem iX {l:List (ByteArray × Int)}{k:Nat}{r:ByteArray × Int}(h:∀ x∈l.take k,x.2=0)(hr:l[k]?=some r)(h0:r.2=0):∀ x∈l.take (k+1),x.2=0:=fun x hx=>by
 rw [take_snoc' l k r hr] at hx;rcases List.mem_append.1 hx with hx | hx
 ·exact h x hx
 ·obtain rfl:=List.mem_singleton.1 hx
  exact h0
theorem Bz {ok:Nat->Prop}(g:af)(a:bN)(w:World)(hg:dN ok w g a)(hi:NL g)(hS:AW w) :
  Calls prog 39 #[.agg #[.string g.name,.int .u64 g.id,.int .i64 g.seq,.int .i64 g.Gd,.int .i64 g.next,.slice a.tp g.tags.length a.tc,.slice a.dp g.Gb.length a.dc,.slice a.vp g.F9.length a.vc,.slice a.hp g.history.length a.hc]] w (gX (pM g) w):=by
 have HG:=aa hg;clear hg;have HI:=aa hi;clear hi;have MD:=aa hS;clear hS;have cU:=aa (ae w (.cells #[.string g.name,.int .u64 g.id,.int .i64 g.seq,.int .i64 g.Gd,.int .i64 g.next,.slice a.tp g.tags.length a.tc,.slice a.dp g.Gb.length a.dc,.slice a.vp g.F9.length a.vc,.slice a.hp g.history.length a.hc] 31));have CN:=aa (b9 w (.cells #[.string g.name,.int .u64 g.id,.int .i64 g.seq,.int .i64 g.Gd,.int .i64 g.next,.slice a.tp g.tags.length a.tc,.slice a.dp g.Gb.length a.dc,.slice a.vp g.F9.length a.vc,.slice a.hp g.history.length a.hc] 31));go_enter func39,ntmps39
 go_upto_region 1 with (fail)
 generalize hW1:World.alloc w _=W1 at *;generalize Ms:w.heap.size=Bg at *;clear hW1
 have hS:∀ w':World,Below W1.heap.size W1 w'->(w'.cell? ⟨Bg,0,none⟩=some (.string g.name)/\w'.cell? ⟨Bg,1,none⟩=some (.int .u64 g.id)/\w'.cell? ⟨Bg,2,none⟩=some (.int .i64 g.seq)/\w'.cell? ⟨Bg,3,none⟩=some (.int .i64 g.Gd)/\w'.cell? ⟨Bg,4,none⟩=some (.int .i64 g.next)/\w'.cell? ⟨Bg,5,none⟩=some (.slice a.tp g.tags.length a.tc)/\w'.cell? ⟨Bg,6,none⟩=some (.slice a.dp g.Gb.length a.dc)/\w'.cell? ⟨Bg,7,none⟩=some (.slice a.vp g.F9.length a.vc)/\w'.cell? ⟨Bg,8,none⟩=some (.slice a.hp g.history.length a.hc)):=fun w' e=>by
  have h2:=(e.block Bg (aq CN.o)).trans CN.o;exact ⟨cr h2 _ _ rfl,cr h2 _ _ rfl,cr h2 _ _ rfl,cr h2 _ _ rfl,cr h2 _ _ rfl,cr h2 _ _ rfl,cr h2 _ _ rfl,cr h2 _ _ rfl,cr h2 _ _ rfl⟩
 have HS:=aa hS;clear hS;refine aL (fun w'=>w'.cell? ⟨Bg,0,none⟩=some (.string g.name)/\w'.cell? ⟨Bg,1,none⟩=some (.int .u64 g.id)/\w'.cell? ⟨Bg,2,none⟩=some (.int .i64 g.seq)/\w'.cell? ⟨Bg,3,none⟩=some (.int .i64 g.Gd)/\w'.cell? ⟨Bg,4,none⟩=some (.int .i64 g.next)/\w'.cell? ⟨Bg,5,none⟩=some (.slice a.tp g.tags.length a.tc)/\w'.cell? ⟨Bg,6,none⟩=some (.slice a.dp g.Gb.length a.dc)/\w'.cell? ⟨Bg,7,none⟩=some (.slice a.vp g.F9.length a.vc)/\w'.cell? ⟨Bg,8,none⟩=some (.slice a.hp g.history.length a.hc)) 2 [] (by kernel_rfl) (HS.o _ (bj W1.heap.size W1).drew) (fun hHeld=>?_);refine fS 0 hHeld ?_;try simp only [ak];refine lR 1 fun K hK=>?_;go_simp;refine (zq _).mono ?_;rintro e w2 ⟨sm,rfl,hmap,hb2⟩;have cm:Hid (Below W1.heap.size W1 w2):=aa ⟨hb2.os,hb2.tape,hb2.output,hb2.size,hb2.block⟩;have Pk:=aa hmap;clear hmap hb2;refine hK.o _ _ (HS.o _ cm.o) ?_;clear hK K hHeld HS;refine aP (by kernel_rfl) rfl ?_;simp only [cQ,cL];have hA:=ae w2 (.cells #[.string g.name,.int .u64 g.id,.int .i64 g.seq,.int .i64 g.Gd,.int .i64 g.next,.slice a.tp g.tags.length a.tc,.slice a.dp g.Gb.length a.dc,.slice a.vp g.F9.length a.vc,.slice a.hp g.history.length a.hc,.map (some sm)] 141);have hN:=b9 w2 (.cells #[.string g.name,.int .u64 g.id,.int .i64 g.seq,.int .i64 g.Gd,.int .i64 g.next,.slice a.tp g.tags.length a.tc,.slice a.dp g.Gb.length a.dc,.slice a.vp g.F9.length a.vc,.slice a.hp g.history.length a.hc,.map (some sm)] 141);have I3:Hid (gY (w2.alloc (.cells #[.string g.name,.int .u64 g.id,.int .i64 g.seq,.int .i64 g.Gd,.int .i64 g.next,.slice a.tp g.tags.length a.tc,.slice a.dp g.Gb.length a.dc,.slice a.vp g.F9.length a.vc,.slice a.hp g.history.length a.hc,.map (some sm)] 141)) w2.heap.size g a):=aa ⟨sm,hN,Pk.o.block (hA.block _ Pk.o.lt)⟩;have cJ:Hid (Below Bg w _):=aa ((cU.o.trans (cm.o.mono (by have:=cU.o.size;omega))).trans (hA.mono (by have:=cU.o.size;have:=cm.o.size;omega)));have Hh:=aq hN;clear hA hN Pk
 go_upto_region 2 with (fail)
 generalize hW3:World.alloc w2 _=W3 at *;generalize aa9:w2.heap.size=bc at *;clear hW3;have Lb:=aa (ae W3 (.cells #[.func (.func 83) #[.pointer (some ⟨bc,0,none⟩)] #[],.func (.func 84) #[.pointer (some ⟨bc,0,none⟩)] #[],.func (.func 85) #[.pointer (some ⟨bc,0,none⟩)] #[],.func (.func 86) #[.pointer (some ⟨bc,0,none⟩)] #[],.func (.func 87) #[.pointer (some ⟨bc,0,none⟩)] #[],.func (.func 88) #[.pointer (some ⟨bc,0,none⟩)] #[],.func (.func 89) #[.pointer (some ⟨bc,0,none⟩)] #[],.func (.func 90) #[.pointer (some ⟨bc,0,none⟩)] #[]] 142));have Qn:=aa (b9 W3 (.cells #[.func (.func 83) #[.pointer (some ⟨bc,0,none⟩)] #[],.func (.func 84) #[.pointer (some ⟨bc,0,none⟩)] #[],.func (.func 85) #[.pointer (some ⟨bc,0,none⟩)] #[],.func (.func 86) #[.pointer (some ⟨bc,0,none⟩)] #[],.func (.func 87) #[.pointer (some ⟨bc,0,none⟩)] #[],.func (.func 88) #[.pointer (some ⟨bc,0,none⟩)] #[],.func (.func 89) #[.pointer (some ⟨bc,0,none⟩)] #[],.func (.func 90) #[.pointer (some ⟨bc,0,none⟩)] #[]] 142))
 go_upto_region 4 with (fail)
 generalize hW4:World.alloc W3 _=W4 at *;generalize Rz:W3.heap.size=Br at *;clear hW4;have eI:=aa (cJ.o.trans (Lb.o.mono (by have:=cJ.o.size;omega)));have V9:Hid (gY W4 bc g a):=aa (I3.o.below ⟨Lb.o.os,Lb.o.tape,Lb.o.output,Lb.o.size,fun k hk=>Lb.o.block k (by omega)⟩);clear Lb I3 cJ cm cU CN
 go_loopw [33] (fun i wr=>∃ k:Nat,k<=8/\i=.int .i64 k/\Below W4.heap.size W4 wr/\pM g=oW ((aZ g).drop k)/\(∀ x∈(aZ g).take k,x.2=0)) (fun i _=>8 - (intOf i).toNat)
 case atStart=>exact ⟨0,by omega,rfl,bj _ _,Ez g,fun x hx=>by simp at hx⟩
 case round =>
  obtain ⟨k,hk,rfl,hb,he,hall⟩:=hrel;have HB:=aa hb;clear hb;have HE:=aa he;clear he;have cE:=aa hall;clear hall;have fy:Hid (Below w.heap.size w wr):=aa (by rw [Ms];exact eI.o.trans (HB.o.mono (by have:=eI.o.size;omega)));have th:=V9.o.below HB.o;have Jv:=HG.o.mv (Mv.of fy.o);have KN:=MD.o.below fy.o;have hN:=(HB.o.block Br (aq Qn.o)).trans Qn.o
  by_cases hlt:k<8
  ·have hk8:k=0\/k=1\/k=2\/k=3\/k=4\/k=5\/k=6\/k=7:=by omega
   rcases hk8 with rfl | rfl | rfl | rfl | rfl | rfl | rfl | rfl
   ·have q0:=cr hN 0 _ rfl
    have HC:Hid (Calls prog 83 #[.pointer (some ⟨bc,0,none⟩)] wr (gX (dZ g) wr)):=aa (CJ (ok:=ok) g a bc wr th Jv HI.o.tx KN);have HA:Hid ((aZ g)[0]?=some (dZ g)):=aa rfl;have qT:=aa (HE.o.trans (gW HA.o));have mC:=aa (fun h0=>iX cE.o HA.o h0);clear  th Jv KN hN HE;generalize dZ g=r at *;obtain ⟨p1,x1⟩:=r;dsimp only at HC qT mC
    go_wp2_with fail
    refine HC.o.mono ?_;rintro e w5 ⟨rfl,hb5⟩;have eK:=aa (HB.o.trans (hb5.mono HB.o.size));have B3:Hid (Below w.heap.size w w5):=aa (fy.o.trans (hb5.mono fy.o.size));clear HC hb5 fy HB q0
    by_cases hx:x1=0
    ·have qu:(x1 != 0)=false:=by simpa using hx
     have HX:=aa hx;clear hx;go_wp2;go_roundw
     case rel=>exact ⟨1,by omega,by go_num,eK.o,by rw [qT.o,aw HX.o],mC.o HX.o⟩
     case measure=>simp [intOf]
    ·have qu:(x1 != 0)=true:=by simpa using hx
     have HX:=aa hx;clear hx;go_wp2;go_ret2;exact ⟨by rw [qT.o,bh HX.o];rfl,B3.o⟩
   ·have q0:=cr hN 1 _ rfl
    have h1:(dZ g).2=0:=cE.o _ (by simp [aZ]);have HC:Hid (Calls prog 84 #[.pointer (some ⟨bc,0,none⟩)] wr (gX (dw g) wr)):=aa (A7 (ok:=ok) g a bc wr th Jv HI.o.tx ⟨(iT h1).1.2.2.1,(iT h1).1.2.2.2.1⟩ KN);have HA:Hid ((aZ g)[1]?=some (dw g)):=aa rfl;have qT:=aa (HE.o.trans (gW HA.o));have mC:=aa (fun h0=>iX cE.o HA.o h0);clear h1 th Jv KN hN HE;generalize dw g=r at *;obtain ⟨p1,x1⟩:=r;dsimp only at HC qT mC
    go_wp2_with fail
    refine HC.o.mono ?_;rintro e w5 ⟨rfl,hb5⟩;have eK:=aa (HB.o.trans (hb5.mono HB.o.size));have B3:Hid (Below w.heap.size w w5):=aa (fy.o.trans (hb5.mono fy.o.size));clear HC hb5 fy HB q0
    by_cases hx:x1=0
    ·have qu:(x1 != 0)=false:=by simpa using hx
     have HX:=aa hx;clear hx;go_wp2;go_roundw
     case rel=>exact ⟨2,by omega,by go_num,eK.o,by rw [qT.o,aw HX.o],mC.o HX.o⟩
     case measure=>simp [intOf]
    ·have qu:(x1 != 0)=true:=by simpa using hx
     have HX:=aa hx;clear hx;go_wp2;go_ret2;exact ⟨by rw [qT.o,bh HX.o];rfl,B3.o⟩
   ·have q0:=cr hN 2 _ rfl
    have h1:(dZ g).2=0:=cE.o _ (by simp [aZ]);have h2:(dw g).2=0:=cE.o _ (by simp [aZ]);have HC:Hid (Calls prog 85 #[.pointer (some ⟨bc,0,none⟩)] wr (gX (dJ g) wr)):=aa (wQ (ok:=ok) g a bc wr th Jv HI.o.tx KN);have HA:Hid ((aZ g)[2]?=some (dJ g)):=aa rfl;have qT:=aa (HE.o.trans (gW HA.o));have mC:=aa (fun h0=>iX cE.o HA.o h0);clear h1 h2 th Jv KN hN HE;generalize dJ g=r at *;obtain ⟨p1,x1⟩:=r;dsimp only at HC qT mC
    go_wp2_with fail
    refine HC.o.mono ?_;rintro e w5 ⟨rfl,hb5⟩;have eK:=aa (HB.o.trans (hb5.mono HB.o.size));have B3:Hid (Below w.heap.size w w5):=aa (fy.o.trans (hb5.mono fy.o.size));clear HC hb5 fy HB q0
    by_cases hx:x1=0
    ·have qu:(x1 != 0)=false:=by simpa using hx
     have HX:=aa hx;clear hx;go_wp2;go_roundw
     case rel=>exact ⟨3,by omega,by go_num,eK.o,by rw [qT.o,aw HX.o],mC.o HX.o⟩
     case measure=>simp [intOf]
    ·have qu:(x1 != 0)=true:=by simpa using hx
     have HX:=aa hx;clear hx;go_wp2;go_ret2;exact ⟨by rw [qT.o,bh HX.o];rfl,B3.o⟩
   ·have q0:=cr hN 3 _ rfl
    have h1:(dZ g).2=0:=cE.o _ (by simp [aZ]);have h2:(dw g).2=0:=cE.o _ (by simp [aZ]);have h3:(dJ g).2=0:=cE.o _ (by simp [aZ]);have HC:Hid (Calls prog 86 #[.pointer (some ⟨bc,0,none⟩)] wr (gX (iP g) wr)):=aa (uR (ok:=ok) g a bc wr th Jv HI.o.sz ⟨(iT h1).1.2.2.1,(iT h1).1.2.2.2.1⟩ HI.o.kw);have HA:Hid ((aZ g)[3]?=some (iP g)):=aa rfl;have qT:=aa (HE.o.trans (gW HA.o));have mC:=aa (fun h0=>iX cE.o HA.o h0);clear h1 h2 h3 th Jv KN hN HE;generalize iP g=r at *;obtain ⟨p1,x1⟩:=r;dsimp only at HC qT mC
    go_wp2_with fail
    refine HC.o.mono ?_;rintro e w5 ⟨rfl,hb5⟩;have eK:=aa (HB.o.trans (hb5.mono HB.o.size));have B3:Hid (Below w.heap.size w w5):=aa (fy.o.trans (hb5.mono fy.o.size));clear HC hb5 fy HB q0
    by_cases hx:x1=0
    ·have qu:(x1 != 0)=false:=by simpa using hx
     have HX:=aa hx;clear hx;go_wp2;go_roundw
     case rel=>exact ⟨4,by omega,by go_num,eK.o,by rw [qT.o,aw HX.o],mC.o HX.o⟩
     case measure=>simp [intOf]
    ·have qu:(x1 != 0)=true:=by simpa using hx
     have HX:=aa hx;clear hx;go_wp2;go_ret2;exact ⟨by rw [qT.o,bh HX.o];rfl,B3.o⟩
   ·have q0:=cr hN 4 _ rfl
    have h1:(dZ g).2=0:=cE.o _ (by simp [aZ]);have h2:(dw g).2=0:=cE.o _ (by simp [aZ]);have h3:(dJ g).2=0:=cE.o _ (by simp [aZ]);have h4:(iP g).2=0:=cE.o _ (by simp [aZ]);have HC:Hid (Calls prog 87 #[.pointer (some ⟨bc,0,none⟩)] wr (gX (mY g) wr)):=aa (rM (ok:=ok) g a bc wr th Jv (zm HI.o h1 h2 h3 h4) KN);have HA:Hid ((aZ g)[4]?=some (mY g)):=aa rfl;have qT:=aa (HE.o.trans (gW HA.o));have mC:=aa (fun h0=>iX cE.o HA.o h0);clear h1 h2 h3 h4 th Jv KN hN HE;generalize mY g=r at *;obtain ⟨p1,x1⟩:=r;dsimp only at HC qT mC
    go_wp2_with fail
    refine HC.o.mono ?_;rintro e w5 ⟨rfl,hb5⟩;have eK:=aa (HB.o.trans (hb5.mono HB.o.size));have B3:Hid (Below w.heap.size w w5):=aa (fy.o.trans (hb5.mono fy.o.size));clear HC hb5 fy HB q0
    by_cases hx:x1=0
    ·have qu:(x1 != 0)=false:=by simpa using hx
     have HX:=aa hx;clear hx;go_wp2;go_roundw
     case rel=>exact ⟨5,by omega,by go_num,eK.o,by rw [qT.o,aw HX.o],mC.o HX.o⟩
     case measure=>simp [intOf]
    ·have qu:(x1 != 0)=true:=by simpa using hx
     have HX:=aa hx;clear hx;go_wp2;go_ret2;exact ⟨by rw [qT.o,bh HX.o];rfl,B3.o⟩
   ·have q0:=cr hN 5 _ rfl
    have h1:(dZ g).2=0:=cE.o _ (by simp [aZ]);have h2:(dw g).2=0:=cE.o _ (by simp [aZ]);have h3:(dJ g).2=0:=cE.o _ (by simp [aZ]);have h4:(iP g).2=0:=cE.o _ (by simp [aZ]);have h5:(mY g).2=0:=cE.o _ (by simp [aZ]);have HC:Hid (Calls prog 88 #[.pointer (some ⟨bc,0,none⟩)] wr (gX (qG g) wr)):=aa (BS (ok:=ok) g a bc wr th Jv (zm HI.o h1 h2 h3 h4) (Cg h3 h4) (mZ h4));have HA:Hid ((aZ g)[5]?=some (qG g)):=aa rfl;have qT:=aa (HE.o.trans (gW HA.o));have mC:=aa (fun h0=>iX cE.o HA.o h0);clear h1 h2 h3 h4 h5 th Jv KN hN HE;generalize qG g=r at *;obtain ⟨p1,x1⟩:=r;dsimp only at HC qT mC
    go_wp2_with fail
    refine HC.o.mono ?_;rintro e w5 ⟨rfl,hb5⟩;have eK:=aa (HB.o.trans (hb5.mono HB.o.size));have B3:Hid (Below w.heap.size w w5):=aa (fy.o.trans (hb5.mono fy.o.size));clear HC hb5 fy HB q0
    by_cases hx:x1=0
    ·have qu:(x1 != 0)=false:=by simpa using hx
     have HX:=aa hx;clear hx;go_wp2;go_roundw
     case rel=>exact ⟨6,by omega,by go_num,eK.o,by rw [qT.o,aw HX.o],mC.o HX.o⟩
     case measure=>simp [intOf]
    ·have qu:(x1 != 0)=true:=by simpa using hx
     have HX:=aa hx;clear hx;go_wp2;go_ret2;exact ⟨by rw [qT.o,bh HX.o];rfl,B3.o⟩
   ·have q0:=cr hN 6 _ rfl
    have h1:(dZ g).2=0:=cE.o _ (by simp [aZ]);have h2:(dw g).2=0:=cE.o _ (by simp [aZ]);have h3:(dJ g).2=0:=cE.o _ (by simp [aZ]);have h4:(iP g).2=0:=cE.o _ (by simp [aZ]);have h5:(mY g).2=0:=cE.o _ (by simp [aZ]);have h6:(qG g).2=0:=cE.o _ (by simp [aZ]);have HC:Hid (Calls prog 89 #[.pointer (some ⟨bc,0,none⟩)] wr (gX (pE g) wr)):=aa (vM (ok:=ok) g a bc wr th Jv (zm HI.o h1 h2 h3 h4) (Er HI.o h1 h2 h3 h4 h5));have HA:Hid ((aZ g)[6]?=some (pE g)):=aa rfl;have qT:=aa (HE.o.trans (gW HA.o));have mC:=aa (fun h0=>iX cE.o HA.o h0);clear h1 h2 h3 h4 h5 h6 th Jv KN hN HE;generalize pE g=r at *;obtain ⟨p1,x1⟩:=r;dsimp only at HC qT mC
    go_wp2_with fail
    refine HC.o.mono ?_;rintro e w5 ⟨rfl,hb5⟩;have eK:=aa (HB.o.trans (hb5.mono HB.o.size));have B3:Hid (Below w.heap.size w w5):=aa (fy.o.trans (hb5.mono fy.o.size));clear HC hb5 fy HB q0
    by_cases hx:x1=0
    ·have qu:(x1 != 0)=false:=by simpa using hx
     have HX:=aa hx;clear hx;go_wp2;go_roundw
     case rel=>exact ⟨7,by omega,by go_num,eK.o,by rw [qT.o,aw HX.o],mC.o HX.o⟩
     case measure=>simp [intOf]
    ·have qu:(x1 != 0)=true:=by simpa using hx
     have HX:=aa hx;clear hx;go_wp2;go_ret2;exact ⟨by rw [qT.o,bh HX.o];rfl,B3.o⟩
   ·have q0:=cr hN 7 _ rfl
    have h1:(dZ g).2=0:=cE.o _ (by simp [aZ]);have h2:(dw g).2=0:=cE.o _ (by simp [aZ]);have h3:(dJ g).2=0:=cE.o _ (by simp [aZ]);have h4:(iP g).2=0:=cE.o _ (by simp [aZ]);have h5:(mY g).2=0:=cE.o _ (by simp [aZ]);have h6:(qG g).2=0:=cE.o _ (by simp [aZ]);have h7:(pE g).2=0:=cE.o _ (by simp [aZ]);have HC:Hid (Calls prog 90 #[.pointer (some ⟨bc,0,none⟩)] wr (gX (rY g) wr)):=aa (DC (ok:=ok) g a bc wr th Jv HI.o.sz (Ao (iT h1).2 h3 h4) (yB HI.o) (fun v hv=>by have:=(nH h3 v hv).2.1;unfold maxLen;omega));have HA:Hid ((aZ g)[7]?=some (rY g)):=aa rfl;have qT:=aa (HE.o.trans (gW HA.o));have mC:=aa (fun h0=>iX cE.o HA.o h0);clear h1 h2 h3 h4 h5 h6 h7 th Jv KN hN HE;generalize rY g=r at *;obtain ⟨p1,x1⟩:=r;dsimp only at HC qT mC
    go_wp2_with fail
    refine HC.o.mono ?_;rintro e w5 ⟨rfl,hb5⟩;have eK:=aa (HB.o.trans (hb5.mono HB.o.size));have B3:Hid (Below w.heap.size w w5):=aa (fy.o.trans (hb5.mono fy.o.size));clear HC hb5 fy HB q0
    by_cases hx:x1=0
    ·have qu:(x1 != 0)=false:=by simpa using hx
     have HX:=aa hx;clear hx;go_wp2;go_roundw
     case rel=>exact ⟨8,by omega,by go_num,eK.o,by rw [qT.o,aw HX.o],mC.o HX.o⟩
     case measure=>simp [intOf]
    ·have qu:(x1 != 0)=true:=by simpa using hx
     have HX:=aa hx;clear hx;go_wp2;go_ret2;exact ⟨by rw [qT.o,bh HX.o];rfl,B3.o⟩
  ·obtain rfl:k=8:=by omega
   have HR:Hid (pM g=(⟨#[]⟩,0)):=aa HE.o;clear hN th Jv KN;go_wp2;go_ret2;exact ⟨by rw [HR.o];rfl,fy.o⟩
end Go.Proofs.YtjdfihglehfelaaGreatDoor
