/- Lemmas: ModZc, ModY, ModZd, NeeB, NeeC, NeeD, NeeE. -/
import Derived.Test.YtillcmhjhajimaaGreatDoorQj12
import Derived.Deep.AppendLies
set_option maxRecDepth 100000
set_option maxHeartbeats 32000000
set_option linter.all false
namespace Go.Proofs.YtillcmhjhajimaaGreatDoor
open Go.Proofs.Tryz
open Go.RowKit Go.Maps Go.Shelf
variable {B bm Bt:Nat}{w w':World}{L:List (az × Nat)}{d:az}
theorem DI:(prog.info? 4).map (fun i=>(i.zero,i.size,i.bytes))=some (some (.bool false),1,1):=by kernel_rfl
theorem xR(d:az):(bz [] d).map Value.bool=List.replicate d.Gc.toNat (.bool false):=by
 refine Bk fun i=>?_;simp only[rI,List.getElem?_replicate]
 by_cases h:i<d.Gc.toNat
 ·rw[gU h,aw h];rfl
 rw[bh h,xj (by rw[gP];omega)];rfl
theorem AJ(d:az)(E:Nat)(hE:d.Gc.toNat=E)(h:E<=1000000)(w:World) :
  (Instr.makeSlice 171 (.int .i64 (E:Int)) (.int .i64 (E:Int))).run prog w=.ok (.slice (some w.heap.size) E E) (w.alloc (.cells ((bz [] d).map Value.bool).toArray 4)):=by
 obtain⟨i0,hi,hz0,hz1,hz2⟩:=gg DI;have:=run_makeSlice w 171 4 i0 _ underlying171 hi hz0 .i64 .i64 (E:Int) (E:Int) TcN TcN (by rw[hz1];simp;omega) (by rw[hz2];omega) TcN;rw[hz1]at this;simp only[Int.toNat_natCast,fp]at this;have e:madeCells (Value.bool false).cells E=(List.replicate E (Value.bool false)).toArray:=by
  unfold madeCells;refine Array.ext TcO fun i h1 h2=>?_;simp[Value.cells,Nat.mod_one]
 rw[this,xR,hE,e]
structure NJ(B:Nat)(w:World)(bm Bt:Nat)(L:List (az × Nat)):Prop where
 m:uF (fun b=>b<B) w L bm
 t:kK w L []
 c:w.cell? Bt=some (.map (some bm))
 n:∀p∈L,p.2≠Bt
 bt:Bt<w.heap.size
theorem NJ.below(h:NJ B w bm Bt L)(hb:Below w.heap.size w w'):NJ B w' bm Bt L :=
 ⟨⟨h.m.map.block (hb.block _ h.m.map.lt),h.m.nb,h.m.nn,fun p hp=>⟨cC (h.m.lt p hp).1 hb.size,(h.m.lt p hp).2⟩,h.m.de⟩,h.t.below hb,(hb.cell (p:=Bt) h.bt).trans h.c,h.n,cC h.bt hb.size⟩
theorem NJ.snoc{W:World}{E:Nat}(h:NJ B w bm Bt L)(hb:Below w.heap.size w W)(hB:B<=W.heap.size)(hd:0<=d.Gc/\d.Gc<=1000000)(hE:d.Gc.toNat=E)(hn:∀p∈L,¬p.1.name=d.name)
  (hm:bi prog 9 w' bm (L.length+1) (upd (vG L) (.string d.name) (.slice (some W.heap.size) E E))) (hg:(W.alloc (.cells ((bz [] d).map Value.bool).toArray 4)).grownBy w' (some bm)) (hz:w'.heap.size=(W.alloc (.cells ((bz [] d).map Value.bool).toArray 4)).heap.size):NJ B w' bm Bt (L++[(d,W.heap.size)]):=by
 have hA:=ae W (.cells ((bz [] d).map Value.bool).toArray 4);have h1:=(h.below hb).below hA;have Hv:=h.m.map.lt;have hbW:=cC Hv hb.size;have mA:=hb.size;have MC:=h.bt;have hzW:(W.alloc (.cells ((bz [] d).map Value.bool).toArray 4)).heap.size=W.heap.size+1:=by simp
 have gh:=b9 W (.cells ((bz [] d).map Value.bool).toArray 4);have hmap:(L++[(d,W.heap.size)]).map (·.2)=L.map (·.2)++[W.heap.size]:=by simp
 have hmap2:(L++[(d,W.heap.size)]).map (·.1.name)=L.map (·.1.name)++[d.name]:=by simp
 generalize hW1:World.alloc W _=W1 at *;have hlt:∀p∈L++[(d,W.heap.size)],p.2<w'.heap.size/\¬p.2<B/\p.2≠bm:=fun p hp=>by
  rcases List.mem_append.1 hp with hp|hp
  ·obtain⟨a,b,c⟩:=h1.m.lt p hp;exact⟨TcN,b,c⟩
  obtain rfl:=List.mem_singleton.1 hp;exact⟨by show W.heap.size<_;omega,by show ¬W.heap.size<B;omega,by show W.heap.size≠bm;omega⟩
 have sy:∀b,b<W1.heap.size->b≠bm->w'.heap[b]?=W1.heap[b]?:=fun b hb hne=>oJ hg hb hne;have VV:=h1.bt
 have Rw:Bt≠bm:=by
  rintro rfl;exact absurd h.c (by
   obtain⟨D,⟨es,clock,e,_⟩,_⟩:=h.m.map;simp[World.cell?,e])
 refine⟨⟨?_,?_,?_,hlt,?_⟩,?_,?_,?_,TcN⟩
 ·rw[cD];refine hm.congr fun key _ _=>?_;rw[Av L d _ hn key,hE]
 ·rw[hmap,List.nodup_append];refine⟨h.m.nb,TcO,fun a ha b hb=>?_⟩;obtain⟨p,hp,rfl⟩:=List.mem_map.1 ha;obtain rfl:=List.mem_singleton.1 hb;have:=(h.m.lt p hp).1;omega
 ·rw[hmap2,List.nodup_append];refine⟨h.m.nn,TcO,fun a ha b hb=>?_⟩;obtain⟨p,hp,rfl⟩:=List.mem_map.1 ha;obtain rfl:=List.mem_singleton.1 hb;exact hn p hp
 ·intro p hp;rcases List.mem_append.1 hp with hp|hp
  ·exact h.m.de p hp
  obtain rfl:=List.mem_singleton.1 hp;exact hd
 ·intro p hp;rcases List.mem_append.1 hp with hp|hp
  ·have:=h1.m.lt p hp;exact(sy _ this.1 this.2.2).trans (h1.t p hp)
  obtain rfl:=List.mem_singleton.1 hp;exact(sy _ (by show W.heap.size<_;omega) (by show W.heap.size≠bm;omega)).trans gh
 ·exact(cd (a:=Bt) (sy Bt VV Rw)).trans h1.c
 intro p hp;rcases List.mem_append.1 hp with hp|hp
 ·exact h.n p hp
 obtain rfl:=List.mem_singleton.1 hp;show W.heap.size≠Bt;omega
theorem uF.mod{ok:Nat->Prop}(h:uF ok w L bm)(hm:cR (Gm L) w w'):uF ok w' L bm :=
 ⟨h.map.block (hm.block _ h.map.lt fun⟨p,hp,e⟩=>(h.lt p hp).2.2 e),h.nb,h.nn,fun p hp=>⟨cC (h.lt p hp).1 hm.size,(h.lt p hp).2⟩,h.de⟩
theorem wm(pre:List (ay × aB))(v:ay)(s:aB):lU (pre++[(v,s)])=lU pre++dC (aX s) s.Ga:=by simp[lU]
theorem zn{Gb:List az}(h:(Gb.map (·.name)).Nodup){k:Nat}(hd:Gb[k]?=some d)(hL:L.map (·.1)=Gb.take k):∀p∈L,¬p.1.name=d.name:=fun p hp e=>by
 have h1:p.1∈Gb.take k:=by rw[<- hL];exact List.mem_map_of_mem hp
 obtain⟨i,hi,Yv⟩:=List.mem_iff_getElem.1 h1;rw[ey]at hi;rw[List.getElem_take]at Yv;obtain⟨hk,hdk⟩:=List.getElem?_eq_some_iff.1 hd;have Ua:=List.pairwise_iff_getElem.1 h i k (by rw[fW];omega) (by rw[fW];omega) TcN;rw[List.getElem_map,List.getElem_map,Yv,hdk]at Ua;exact Ua e
theorem Cs(key:Value):vG [] key=none:=by
 unfold vG;split<;>rfl
structure FL(g:af):Prop where
 nd:(g.Gb.map (·.name)).Nodup
 ns:∀d∈g.Gb,d.name.size<=maxLen
 dl:g.Gb.length<=1000000
 sg:∀v∈g.F9,∀s∈v.Gf,wM s/\1<=aX s/\(∀a∈s.Ga,a.vol=false->a.on.size<=maxLen/\∃d,bH g.Gb a.on=some d/\0<=a.start/\aX s<=d.Gc-a.start)/\s.pool.size<=maxLen/\(Lit.int .i64 s.device).wf=true
 pl:(aA g.F9).length<=1000000
attribute [local go_sem] run_makeMap_plain
end Go.Proofs.YtillcmhjhajimaaGreatDoor
namespace Go.Proofs.YtillcmhjhajimaaGreatDoor
open Go.Proofs.Tryz
open Go.RowKit Go.Maps Go.Shelf
variable {w:World}{b:Nat}{l:List ByteArray}
theorem gm.nil(h:bi prog 9 w b 0 (fun _=>none)):gm w b []:=h.congr fun key _ _=>by
 unfold cntF;split
 ·simp[iJ]
 rfl
theorem gm.block{w':World}(h:gm w b l)(hb:w'.heap[b]?=w.heap[b]?):gm w' b l:=bi.block h hb
theorem gm.lt(h:gm w b l):b<w.heap.size:=bi.lt h
theorem Ag(l:List ByteArray)(s:ByteArray):iJ l s<=l.length:=List.countP_le_length
theorem wu{F9:List ay}{pre post:List (ay × aB)}{v:ay}{s:aB}(h:aA F9=pre++(v,s) :: post)(pool:Bool):(dA pre pool).length+(dD s pool).length<=(dA (aA F9) pool).length:=by
 rw[h];simp[dA]
attribute [local go_sem] run_makeMap_plain
end Go.Proofs.YtillcmhjhajimaaGreatDoor
namespace Go.Proofs.YtillcmhjhajimaaGreatDoor
open Go.Proofs.Tryz
open Go.RowKit Go.Maps Go.Shelf
theorem sS{f:ay->Int}:∀ {l:List ay},(iM f l).2=0->∀v∈l,f v=0
 |[],_,v,hv=>by cases hv
 |x :: l,h,v,hv=>by
  unfold iM at h;split at h
  ·rename_i hx;rcases List.mem_cons.1 hv with rfl|hv
   ·exact hx
   exact sS h v hv
  rename_i hx;exact absurd h hx
theorem ll{α:Type}{nm:α->ByteArray}{f:Nat->α->Int}:∀ {l:List α} {i:Nat},(gZ nm f i l).2=0->∀(j:Nat) (x:α),l[j]?=some x->f (i+j) x=0
 |[],_,_,j,x,hx=>by cases hx
 |y :: l,i,h,j,x,hx=>by
  unfold gZ at h;split at h
  ·rename_i hy
   match j,hx with
   |0,hx =>
    obtain rfl:y=x:=by simpa using hx
    exact hy
   |j+1,hx =>
    have:=ll h j x TdO;rwa[show i+1+j=i+(j+1) by omega]at this
  rename_i hy;exact absurd h hy
theorem Hd{E:List (ay × aB)->ay->aB->Int}:∀ {l pre:List (ay × aB)},(bD E pre l).2=0->∀(a b:List (ay × aB)) (v:ay) (s:aB),l=a++(v,s) :: b->E (pre++a) v s=0
 |[],_,_,a,b,v,s,e=>by simp at e
 |(v0,s0) :: l,pre,h,a,b,v,s,e=>by
  unfold bD at h;split at h
  ·rename_i h0
   match a,e with
   |[],e =>
    simp only[List.nil_append,rp,Prod.mk.injEq]at e;obtain⟨⟨rfl,rfl⟩,_⟩:=e;rw[eM];exact h0
   |x :: a,e =>
    simp only[List.cons_append,rp]at e;obtain⟨rfl,e⟩:=e;have:=Hd h a b v s e;rwa[cV]at this
  rename_i h0;exact absurd h h0
structure NL(g:af):Prop where
 tx:UT g
 sz:JT g
 kw:Ct g
 st:∀v∈g.F9,∀s∈v.Gf,s.log.size<=9223372036854775807/\s.pool.size<=9223372036854775807/\(∀a∈s.Ga,a.on.size<=9223372036854775807)/\(Lit.int .i64 s.device).wf=true
variable {g:af}
variable {s:aB}{v:ay}
theorem iT(h:(dZ g).2=0):lm g/\iR g:=by
 have h':qX g=0:=h;unfold qX at h';split at h'
 ·cases h'
 split at h'
 ·cases h'
 rename_i h1;split at h'
 ·cases h'
 rename_i h2;exact⟨Decidable.not_not.1 h1,Decidable.not_not.1 h2⟩
theorem nG(h:(dw g).2=0):(g.Gb.map (·.name)).Nodup/\∀d∈g.Gb,jQ g d/\jo d.name=true:=by
 have hE:∀(j:Nat) (d:az),g.Gb[j]?=some d->pg g j d=0:=fun j d hd=>by
  have:=ll (i:=0) h j d hd;rwa[eJ]at this
 have hS:∀(j:Nat) (d:az),g.Gb[j]?=some d->(g.Gb.take j).any (dG d)=false/\jQ g d/\jo d.name=true:=fun j d hd=>by
  have:=hE j d hd;unfold pg at this;split at this
  ·cases this
  rename_i h0;split at this
  ·cases this
  rename_i h1;split at this
  ·cases this
  rename_i h2;exact⟨Bool.eq_false_iff.2 h1,Decidable.not_not.1 h2,TdC⟩
 constructor
 ·rw[List.nodup_iff_pairwise_ne,List.pairwise_iff_getElem];intro i j hi hj OG e;rw[fW]at hi hj;rw[List.getElem_map,List.getElem_map]at e;have h1:=(hS j g.Gb[j] (lO hj)).1;rw[List.any_eq_false]at h1;refine h1 g.Gb[i] (List.mem_iff_getElem.2 ⟨i,by rw[ey];omega,by rw[List.getElem_take]⟩) ?_;simp[dG,e]
 intro d hd;obtain⟨j,hj⟩:=fc hd;exact(hS j d hj).2
theorem oo{s:ByteArray}(h:jo s=true):s.size<=24:=by
 unfold jo at h;simp only[eh,fk]at h;exact h.1.2
theorem za(h:nE v=true):v.name.size<=40:=by
 unfold nE at h;split at h
 ·unfold zH at h;simp only[eh,fk]at h;exact h.1.2
 have:=oo h;omega
theorem nH(h:(dJ g).2=0):∀v∈g.F9,nE v=true/\v.name.size<=40/\1<=v.Gf.length/\v.Gf.length<=64:=fun v hv=>by
 obtain⟨j,hj⟩:=fc hv;have:=ll (i:=0) h j v hj;rw[eJ]at this;unfold yH at this;split at this
 ·cases this
 rename_i h0;split at this
 ·cases this
 split at this
 ·cases this
 rename_i h2;have h0':nE v=true:=by simpa using h0
 exact⟨h0',za h0',Decidable.not_not.1 h2⟩
theorem xz{ext:Int}{n:Nat}:∀ {l:List aB} {st:Int},qV ext n l st=0->∀s∈l,∃st',bJ ext s st'=true
 |[],_,_,s,hs=>by cases hs
 |x :: l,st,h,s,hs=>by
  unfold qV at h;split at h
  ·cases h
  rename_i h0;split at h
  ·cases h
  rcases List.mem_cons.1 hs with rfl|hs
  ·exact⟨st,TdC⟩
  exact xz h s hs
theorem qP(h:(iP g).2=0):∀v∈g.F9,∀s∈v.Gf,∃st,bJ g.Gd s st=true:=fun v hv s hs=>xz (sS h v hv) s hs
theorem CK{k:Int}{x:eX}(h:shapeOf k=some x):0<=x.least/\x.greatest<=6/\(k=2->x.least=2)/\(k=3->x.chunk=1024)/\(k=4->x.least=3)/\(k=5->x.least=2)/\(k=7->x.least=3):=by
 have hk:k=1\/k=2\/k=3\/k=4\/k=5\/k=6\/k=7\/k=8\/k=9\/k=10:=by
  refine Decidable.byContradiction fun q=>?_;simp only[not_or]at q;obtain⟨q1,q2,q3,q4,q5,q6,q7,q8,q9,q10⟩:=q;unfold shapeOf at h;rw[bh q1,bh q2,bh q3,bh q4,bh q5,bh q6,bh q7,bh q8,bh q9,bh q10]at h;cases h
 rcases hk with rfl|rfl|rfl|rfl|rfl|rfl|rfl|rfl|rfl|rfl<;>cases h<;>decide
theorem vT{ext:Int}{st:Int}(h:bJ ext s st=true):Ah s/\1<=aX s/\(s.kind=2->2<=s.Ga.length):=by
 cases hs:shapeOf s.kind with
 |none=>rw[jT hs]at h;cases h
 |some x =>
  have hx:=CK hs;rw[jP hs]at h;simp only[eh,fk]at h;obtain⟨⟨⟨⟨⟨⟨⟨⟨⟨⟨⟨⟨⟨⟨-,h1⟩,h2⟩,h3⟩,h4⟩,-⟩,h6⟩,-⟩,-⟩,-⟩,-⟩,-⟩,-⟩,h13⟩,-⟩:=h;obtain⟨x1,x2,x3,x4,x5,x6,x7⟩:=hx;have hk2:s.kind=2->2<=s.Ga.length:=fun e=>by have:=x3 e;omega
  refine⟨⟨⟨h1,h2,TcN,fun e=>by have:=x6 e;omega,fun e=>by have:=x7 e;omega⟩,fun e=>?_,fun e=>by have:=x5 e;omega⟩,?_,hk2⟩
  ·have hc:=x4 e;unfold fq at h6;rw[hc]at h6;simpa using h6
  unfold aX iB;split
  ·rename_i he;have h13':s.length%(s.Ga.length:Int)=0:=by
    cases hq:(s.kind==2)with
    |true=>rw[hq]at h13;simpa using h13
    |false=>simp[he.1]at hq
   have h2a:=hk2 he.1;have:0<s.length/(s.Ga.length:Int):=by
    refine Decidable.byContradiction fun q=>?_;have e0:=Int.emod_add_mul_ediv s.length s.Ga.length;have:(s.Ga.length:Int)*(s.length/(s.Ga.length:Int))<=0:=Int.mul_nonpos_of_nonneg_of_nonpos TcN TcN;omega
   omega
  omega
theorem zm(hi:NL g)(h1:(dZ g).2=0)(h2:(dw g).2=0)(h3:(dJ g).2=0)(h4:(iP g).2=0):UQ g:=by
 obtain⟨r1,r2⟩:=iT h1;exact⟨hi.sz,fun d hd=>by have:=((nG h2).2 d hd).1;unfold jQ at this;omega,⟨r1.2.2.1,r1.2.2.2.1⟩,fun v hv=>by have:=(nH h3 v hv).2.1;omega,fun v hv s hs=>by
  obtain⟨st,h⟩:=qP h4 v hv s hs;exact(vT h).1.fm⟩
theorem mZ(h4:(iP g).2=0):∀v∈g.F9,∀s∈v.Gf,Ah s:=fun v hv s hs=>by
 obtain⟨st,h⟩:=qP h4 v hv s hs;exact(vT h).1
theorem zW:∀(l:List aB) (n:Int),(∀s∈l,s.length<=32768)->0<=n->l.foldl (fun n s=>fF n s.length) n<=n+32768*(l.length:Int)
 |[],n,_,_=>by simp
 |s :: l,n,h,h0=>by
  have h1:=lT n s.length h0;have h2:fF n s.length<=n+32768:=by
   have:=h s (cG ..);unfold fF;omega
  have:=zW l (fF n s.length) (fun x hx=>h x (kn _ hx)) h1.1;rw[cF,cS];omega
theorem Cg(h3:(dJ g).2=0)(h4:(iP g).2=0):Cu g:=fun nm=>by
 unfold dO;cases hf:aM g.F9 nm with
 |none=>exact⟨TcQ,TcQ⟩
 |some v =>
  have hv:=eV hf;have h1:=uZ v.Gf 0 TcN TcN;have h2:=zW v.Gf 0 (fun s hs=>(mZ h4 v hv s hs).fm.l1) TcN;have h5:=(nH h3 v hv).2.2.2;show 0<=C8 v/\C8 v<=10000000;unfold C8;omega
theorem qo(hl:iR g)(h3:(dJ g).2=0):(aA g.F9).length<=2048:=by
 have:∀l:List ay,(∀v∈l,v.Gf.length<=64)->(aA l).length<=64*l.length:=by
  intro l;induction l with
  |nil=>intro _;simp[aA]
  |cons v l ih =>
   intro h;have h1:=ih fun x hx=>h x (kn _ hx);have h2:=h v (cG ..);unfold aA at h1 ⊢;rw[lB,cD,fW,cS];omega
 have h1:=this g.F9 fun v hv=>(nH h3 v hv).2.2.2;have:=hl.2.1;omega
theorem zZ(h:mM g v s=0):jw g s=true/\s.Ga.all (fI g s)=true/\jS v s=true/\(s.kind=6->eZ ((aM g.F9 s.pool).getD eY)=5)/\(dD s false).any (dh g)=false:=by
 unfold mM at h;split at h
 ·cases h
 rename_i h1;split at h
 ·cases h
 rename_i h2;split at h
 ·cases h
 rename_i h3;split at h
 ·cases h
 rename_i h4;split at h
 ·cases h
 rename_i h5;exact⟨Tdq,by simpa using h2,Tdp,fun e=>Decidable.byContradiction fun q=>h4 ⟨e,q⟩,Bool.eq_false_iff.2 h5⟩
theorem Dh(h:(mY g).2=0):∀v∈g.F9,∀s∈v.Gf,mM g v s=0:=fun v hv s hs=>by
 have:(v,s)∈aA g.F9:=List.mem_flatMap.2 ⟨v,hv,List.mem_map.2 ⟨s,hs,rfl⟩⟩;obtain⟨a,b,e⟩:=List.append_of_mem this;exact Hd h a b v s e
theorem Er(hi:NL g)(h1:(dZ g).2=0)(h2:(dw g).2=0)(h3:(dJ g).2=0)(h4:(iP g).2=0)(h5:(mY g).2=0):FL g:=by
 obtain⟨r1,r2⟩:=iT h1;refine⟨(nG h2).1,fun d hd=>?_,hi.sz.dl,fun v hv s hs=>?_,by have:=qo r2 h3;omega⟩
 ·have:=oo ((nG h2).2 d hd).2;unfold maxLen;omega
 obtain⟨st,h⟩:=qP h4 v hv s hs;obtain⟨f1,f2,f3⟩:=vT h;obtain⟨q1,q2,q3,q4,q5⟩:=zZ (Dh h5 v hv s hs);obtain⟨m1,m2,m3,m4⟩:=hi.st v hv s hs;refine⟨f1.fm,f2,fun a ha pS=>⟨by unfold maxLen;exact m3 a ha,?_⟩,by unfold maxLen;exact m2,m4⟩;unfold jw at q1;rw[eh,eL,eL]at q1;have e1:=q1.1 a ha;rw[pS,nj]at e1;obtain⟨d,hd⟩:=Option.isSome_iff_exists.1 e1;have e2:=List.all_eq_true.1 q2 a ha;unfold fI at e2;rw[pS,nj,hd]at e2;simp only[eh,fk,Option.getD_some]at e2;exact⟨d,hd,e2.1.1,e2.2⟩
theorem yB(hi:NL g):∀v∈g.F9,∀s∈v.Gf,∀pool,∀x∈dD s pool,x.size<=maxLen:=fun v hv s hs pool x hx=>by
 obtain⟨m1,m2,m3,m4⟩:=hi.st v hv s hs;unfold maxLen;unfold dD at hx;rcases List.mem_append.1 hx with hx|hx
 ·rcases List.mem_append.1 hx with hx|hx
  ·obtain⟨a,ha,rfl⟩:=List.mem_map.1 hx;exact m3 a ((List.mem_filter.1 ha).1)
  split at hx
  ·cases hx
  obtain rfl:=List.mem_singleton.1 hx;exact m1
 split at hx
 ·obtain rfl:=List.mem_singleton.1 hx;exact m2
 cases hx
theorem Ao(hl:iR g)(h3:(dJ g).2=0)(h4:(iP g).2=0)(pool:Bool):(dA (aA g.F9) pool).length<=1000000:=by
 have:∀l:List (ay × aB),(∀p∈l,p.2.Ga.length<=6)->(dA l pool).length<=8*l.length:=by
  intro l;induction l with
  |nil=>intro _;simp[dA]
  |cons p l ih =>
   intro h;have h1:=ih fun x hx=>h x (kn _ hx);have h2:=h p (cG ..)
   have h3:(dD p.2 pool).length<=p.2.Ga.length+2:=by
    unfold dD;rw[cD,cD,fW];have:=tk (fun a:aR=>a.vol) p.2.Ga;split<;>split<;>simp<;>omega
   unfold dA at h1 ⊢;rw[lB,cD,cS];omega
 have h1:=this (aA g.F9) fun p hp=>by
  obtain⟨v,hv,hp⟩:=List.mem_flatMap.1 hp;obtain⟨s,hs,rfl⟩:=List.mem_map.1 hp;exact(mZ h4 v hv s hs).fm.ar
 have h2:=qo hl h3;omega
def oW:List (ByteArray × Int)->ByteArray × Int
 |[]=>(⟨#[]⟩,0)
 |r :: l=>if r.2=0 then oW l else r
def mchk(g:af):ByteArray × Int:=oW [dZ g,dw g,dJ g,iP g,mY g,qG g,pE g,rY g]
end Go.Proofs.YtillcmhjhajimaaGreatDoor
namespace Go.Proofs.YtillcmhjhajimaaGreatDoor
open Go.Proofs.Tryz
open Go.RowKit Go.Maps Go.Shelf
variable {w w':World}{B k bm:Nat}{v:ay}{l:List ByteArray}{F9:List ay}{A:List (ay × Value)}
theorem dF.ne{b:Nat}{v:Value}{cs:Array Value}{t:TypeId}{z:Nat × Nat}(h:dF w B v l)(hb:w.heap[b]?=some (.cells cs t z))(ht:t≠9):v.ownBlock≠some b:=fun e=>by
 obtain⟨-,h2⟩:=h;rcases h2 with⟨rfl,_⟩|⟨g,cap,cur,rfl,_,hg,_⟩
 ·cases e
 have:g=b:=by simpa[Value.ownBlock]using e
 subst this;rw[hb]at hg;injection hg with hg;injection hg with _ e2;exact ht e2
theorem b6.flatT{ok:Nat->Prop}{a:Addr}{c:Nat}(h:b6 aF 1 ok w [.slice (some a) l.length c] l):∀(j:Nat) (u:Value),(l.map Value.string)[j]?=some u->w.cell? (a.add j)=some u:=fun j u hu=>by
 rw[rI]at hu;obtain⟨x,hx,rfl⟩:=Option.map_eq_some_iff.1 hu;obtain⟨b,off,us,e,_,_,_,hv,hc⟩:=h.elem hx;obtain rfl:a=_:=gj e;obtain rfl:us=_:=hv;have:=hc 0 _ rfl;rw[iz];simpa using this
theorem mW{ok:Nat->Prop}{ops:Array Oper}{rest:List Oper}{o:Oper}{a:Act}{Q:Exit->Act->World->Prop}(hgd:o.guard=none)(s x:Operand)
  (ho:o.op=.call { callee:=.builtin .append,args:=#[s,x],argTypes:=#[27,27] })
  (B:Nat) (v:Value) (l ps:List ByteArray) (hs:a.eval s=v) (hown:dF w B v l) (p:Option Addr) (c:Nat) (hx:a.eval x=.slice p ps.length c) (hr:b6 aF 1 ok w [.slice p ps.length c] ps)
  (hl:l.length+ps.length<=100000000) (hB:B<=w.heap.size)
  (h:∀v' w',dF w' B v' (l++ps)->Below B w w'->w.grownBy w' v.ownBlock->wpList prog ops Q rest (a.put o.dst v') w'):wpList prog ops Q (o :: rest) a w:=by
 obtain⟨i0,hi,hz0,hz1,hz2⟩:=gg o5;cases p with
 |none =>
  have hp:ps=[]:=by
   obtain⟨p',c',e,_,_,h3⟩:=hr;simp only[rp,Value.slice.injEq,and_true]at e;have e1:=e.1;cases ps with
   |nil=>rfl
   |cons y ys =>
    obtain⟨b,off,e4,_⟩:=h3 TcO;rw[<- e1]at e4;cases e4
  subst hp;refine wpList_plain hgd fun K hK=>?_
  have hrun:(Builtin.append_ #[27,27] o.type #[v,.slice none 0 c]).run prog w=.ok v w:=by
   rcases hown.2 with⟨rfl,_⟩|⟨g,cap,cur,rfl,_,_,vr,_⟩
   ·simp[Builtin.append_,tU underlying27,sizeOf,typeInfo,hi,Builtin.lenOf,Builtin.firstCells]
   simp[Builtin.append_,tU underlying27,sizeOf,typeInfo,hi,Builtin.lenOf,Builtin.firstCells,vr,storeCells]
  unfold Oper.wp execOp;simp only[ho,resolve,invoke,builtin,Sem.run_bind,Sem.run_pure,ud,tS,iu,List.map_nil,hs,hx,Ox,hrun];exact hK _ _ (h v w (by rw[eM];exact hown) (bj _ _) ⟨rfl,rfl,rfl,bk _,fun _ _ _=>rfl⟩)
 |some ad =>
  refine tE w hgd s x 27 ho B 9 i0 _ 1 16 underlying27 hi hz0 hz1 hz2 rfl TcQ v l.length (l.map Value.string) hs hown ad ps.length c (ps.map Value.string) hx TcO hr.flatT Tc0 TcW TcN hB (fun v' w' ho' hg _=>?_);refine h v' w' ?_ ((bj B w).grown hg hB (fun k hk=>(fh hown k hk).1)) hg;unfold dF;rw[gl,cD];exact ho'
def je(l:List aB):List ByteArray:=l.flatMap rQ
theorem BX{l:List aB}:(je (l.take k)).length<=(je l).length:=by
 conv=>rhs;rw[<- rk k l]
 unfold je;rw[xt,cD];omega
theorem yT{l:List aB}{s:aB}(h:l[k]?=some s):je (l.take (k+1))=je (l.take k)++(s.Ga.filter (·.vol)).map (·.on)++(if s.log.toList.isEmpty then [] else [s.log])++(if s.pool.toList.isEmpty then [] else [s.pool]):=by
 rw[take_snoc' l k s h];simp[je,rQ]
def vP(l:List aR):List ByteArray:=(l.filter (·.vol)).map (·.on)
theorem Df(l:List aR):(vP l).length<=l.length:=by
 unfold vP;rw[fW];exact tk ..
theorem BA{l:List aR}{x:aR}(h:l[k]?=some x):vP (l.take (k+1))=vP (l.take k)++if x.vol=true then [x.on] else []:=by
 rw[take_snoc' l k x h];unfold vP;cases hv:x.vol<;>simp[hv]
def Tau(x0:aR):Tab #[.bool x0.vol,.string x0.on,.int .i64 x0.start]:=⟨⟩
theorem TbL{p:Prop}(h:p:=by
 ·obtain rfl:k=v.Gf.length:=by omega
  rw[cI]at HOW;go_wp2;go_ret;exact⟨_,rfl,by rw[HUV.o];exact HOW.o,HB.o⟩):p:=h
theorem Td3{p:Prop}(h:p:=by rw[Hk.o];exact HOW4.o):p:=h
theorem BH{ok:Nat->Prop}(v:ay)(u:List Value)(w:World)(hv:aN ok w u v)(hz:qD v)(hl:(kY v).length<=1000000) :
  Calls prog 145 #[.agg u.toArray] w (Dx w.heap.size w (kY v)):=by
 obtain⟨tv,sv,rfl,ew,fL⟩:=hv;obtain⟨tp,tc,rfl,_,_⟩:=ew.cap;obtain⟨sp,sc,rfl,hsc1,hsc2⟩:=fL.cap;have Zv:=aa fL;clear fL ew;have GF:=hz.Gf;have HZ:=aa hz;clear hz;have hl':(je v.Gf).length<=1000000:=hl;clear hl;have HUV:Hid (kY v=je v.Gf):=aa rfl;have HB:=aa (ae w (.cells (Taf v tp tc sp sc) 57));go_enter func145,ntmps145
 go_upto_region 3 with(fail);generalize hW1:World.alloc w _=W1 at *;clear hW1;go_loopw[3,11] (fun l i wr=>∃k:Nat,k<=v.Gf.length/\i=.int .i64 k/\dF wr w.heap.size l (je (v.Gf.take k))/\Below w.heap.size w wr) (fun _ i _=>v.Gf.length-(intOf i).toNat)
 exact⟨0,cg _,rfl,dF.nil _ _,HB.o⟩;clear HB;obtain⟨k,hk,rfl,hown,hB⟩:=hrel;have HOW:=aa hown;clear hown;have HB:=aa hB;clear hB;have mA:=HB.o.size;have ab0:(je (v.Gf.take k)).length<=1000000:=cA BX hl';by_cases hlt:k<v.Gf.length
 ·obtain⟨s,hs⟩:=aj v.Gf k hlt;obtain⟨b,off,us,rfl,gR,cX,ez,eE,hcv⟩:=Zv.o.elem hs;have hsm:=ct hs;have Q1:=(HZ.o.seg s hsm).1;obtain⟨av,Oz,rfl,mC,hst⟩:=eE;obtain⟨ap,ac,rfl,_,_⟩:=mC.cap;obtain⟨eN,eR,rfl,_,_⟩:=hst.cap;have ya:=aa mC;clear mC hst;have cT:wr.heap[b]?=w.heap[b]?:=HB.o.block b cX;obtain⟨q0,q1,q2,q3,q4,q5,q6,q7,q8,q9,q10⟩:=ak5 cT hcv;have G1:=aa (yT hs);clear hs hsm hcv ez cT;have lj:=aa (b9 wr (.cells (Tae s ap ac eN eR) 88));have hA:=ae wr (.cells (Tae s ap ac eN eR) 88);have cm:=aa (HB.o.trans (hA.mono mA));have HOW2:=aa (HOW.o.below hA);clear hA;go_upto_region 5 with(fail);clear q0 q1 q2 q3 q4 q5 q6 q7 q8 q9 q10;generalize hW2:World.alloc wr _=W2 at *;generalize XL:wr.heap.size=Bs at *;clear hW2 HB HOW;have s3:=cr lj.o 3 _ rfl;go_upto_region 6 with(fail);clear s3;go_loopw[3,18] (fun l i wi=>∃j:Nat,j<=s.Ga.length/\i=.int .i64 j/\dF wi w.heap.size l (je (v.Gf.take k)++vP (s.Ga.take j))/\wi.heap[Bs]?=some (.cells (Tae s ap ac eN eR) 88 (0,0))/\Below w.heap.size w wi) (fun _ i _=>s.Ga.length-(intOf i).toNat)
  exact⟨0,cg _,rfl,by rw[iv];simpa[vP]using HOW2.o,lj.o,cm.o⟩;clear lj cm HOW2;obtain⟨j,hj,rfl,hown,gO,hB⟩:=hrel;have HOW:=aa hown;clear hown;have HB:=aa hB;clear hB;have lj:=aa gO;clear gO;have aj8:=HB.o.size;have mb:=Df (s.Ga.take j);rw[ey]at mb;by_cases hlt2:j<s.Ga.length
  ·obtain⟨x,hx⟩:=aj s.Ga j hlt2;obtain⟨b2,off2,us2,hsp,I0,C2,B5,C3,hcv2⟩:=ya.o.elem hx;subst hsp;obtain rfl:us2=_:=C3;have AD:wr.heap[b2]?=w.heap[b2]?:=HB.o.block b2 C2;obtain⟨q0,q1,q2⟩:=Mn AD hcv2;have XU:=aa (BA hx);clear hcv2 B5 hx AD;have Pm:=aq lj.o;have hA:=ae wr (.cells (Tau x) 83);have yb:=aa (b9 wr (.cells (Tau x) 83));have cm:=aa (HB.o.trans (hA.mono aj8));have HOW2:=aa (HOW.o.below hA);have Hi:=aa ((hA.block _ Pm).trans lj.o);clear hA;go_upto_region 8 with(fail);clear q0 q1 q2;generalize hW3:World.alloc wr _=W3 at *;generalize NU:wr.heap.size=Ba at *;clear hW3 HB HOW lj;have a0:=cr yb.o 0 _ rfl;have a1:=cr yb.o 1 _ rfl
   cases I2:x.vol with
   |false =>
    rw[I2]at a0 XU;rw[bh TcO,eM]at XU;have HV:=aa I2;clear I2;go_wp2;go_roundw;exact⟨j+1,TcN,TcR,by rw[XU.o];exact HOW2.o,Hi.o,cm.o⟩;simp[intOf];omega
   |true =>
    rw[I2]at a0 XU;rw[aw rfl]at XU;have HV:=aa I2;clear I2;have Wa:=cm.o.size;go_wp2_with(at_builtin;refine dz rfl _ _ rfl w.heap.size _ (je (v.Gf.take k)++vP (s.Ga.take j)) x.on rfl ?c1 W3.heap.size 1 rfl ?c2 ?c3 ?c4 ?_)
    case c1=>exact HOW2.o.alloc _
    case c2=>exact aD rfl rfl
    case c3=>rw[cD];omega
    case c4=>simp;omega
    intro v' w1 hown1 hb1 hg1;have hA:=ae W3 (.cells #[.string x.on] 9);have ml:=(hA.block _ (aq Hi.o)).trans Hi.o;have eI:=aa ((cm.o.trans (hA.mono Wa)).trans hb1);have Tx:=aa ((hg1.block Bs (aq ml) (fun e=>(HOW2.o.below hA).ne ml TcQ e.symm)).trans ml);have HOW4:=aa hown1;clear hA ml hb1 hg1 hown1;go_wp2;go_roundw;exact⟨j+1,TcN,TcR,by rw[XU.o];exact HOW4.o,Tx.o,eI.o⟩;simp[intOf];omega
  obtain rfl:j=s.Ga.length:=by omega
  rw[cI]at HOW mb;generalize Pn:je (v.Gf.take k)++vP s.Ga=AL at *;have Wb:AL.length<=3000000:=by rw[<- Pn,cD];omega
  have Hk:Hid (je (v.Gf.take (k+1))=AL++(if s.log.toList.isEmpty then [] else [s.log])++(if s.pool.toList.isEmpty then [] else [s.pool])):=aa (by rw[G1.o,<- Pn];rfl);clear Pn mb G1;have s6:=cr lj.o 6 _ rfl;have s7:=cr lj.o 7 _ rfl;have Pm:=aq lj.o;cases Fi:s.log.toList.isEmpty with
  |true =>
   rw[Fi,aw rfl,eM]at Hk;cases PY:s.pool.toList.isEmpty with
   |true =>
    rw[PY,aw rfl,eM]at Hk;go_wp2;go_roundw;exact⟨k+1,TcN,TcR,by rw[Hk.o];exact HOW.o,HB.o⟩;simp[intOf];omega
   |false =>
    rw[PY,bh TcO]at Hk;go_wp2_with(at_builtin;refine dz rfl _ _ rfl w.heap.size _ AL s.pool rfl ?d1 wr.heap.size 1 rfl ?d2 ?d3 ?d4 ?_)
    case d1=>exact HOW.o.alloc _
    case d2=>exact aD rfl rfl
    case d3=>omega
    case d4=>simp;omega
    intro v' w1 hown1 hb1 hg1;have eI:=aa ((HB.o.alloc aj8 _).trans hb1);have HOW4:=aa hown1;clear hb1 hg1 hown1;go_wp2;go_roundw;exact⟨k+1,TcN,TcR,Td3,eI.o⟩;simp[intOf];omega
  |false =>
   rw[Fi,bh TcO]at Hk;go_wp2_with(at_builtin;refine dz rfl _ _ rfl w.heap.size _ AL s.log rfl ?e1 wr.heap.size 1 rfl ?e2 ?e3 ?e4 ?_)
   case e1=>exact HOW.o.alloc _
   case e2=>exact aD rfl rfl
   case e3=>omega
   case e4=>simp;omega
   intro v' w1 hown1 hb1 hg1;have hA:=ae wr (.cells #[.string s.log] 9);have ml:=(hA.block _ Pm).trans lj.o;have eI:=aa ((HB.o.trans (hA.mono aj8)).trans hb1);have Tx:=aa ((hg1.block Bs (aq ml) (fun e=>(HOW.o.below hA).ne ml TcQ e.symm)).trans ml);have HOW4:=aa hown1;have Wc:=eI.o.size;clear hA ml hb1 hg1 hown1 s6 s7;have s7:=cr Tx.o 7 _ rfl
   cases PY:s.pool.toList.isEmpty with
   |true =>
    rw[PY,aw rfl,eM]at Hk;go_wp2;go_roundw;exact⟨k+1,TcN,TcR,Td3,eI.o⟩;simp[intOf];omega
   |false =>
    rw[PY,bh TcO]at Hk;go_wp2_with(at_builtin;refine dz rfl _ _ rfl w.heap.size _ (AL++[s.log]) s.pool rfl ?f1 w1.heap.size 1 rfl ?f2 ?f3 ?f4 ?_)
    case f1=>exact HOW4.o.alloc _
    case f2=>exact aD rfl rfl
    case f3=>simp;omega
    case f4=>simp;omega
    intro v2 w2 hown2 hb2 hg2;have eK:=aa ((eI.o.alloc Wc _).trans hb2);have HOW5:=aa hown2;clear hb2 hg2 hown2;go_wp2;go_roundw;exact⟨k+1,TcN,TcR,by rw[Hk.o,cV];exact HOW5.o,eK.o⟩;simp[intOf];omega
 exact TbL
def rO(A:List (ay × Value)):Value->Option Value
 |.string s=>(A.find? fun p=>decide (p.1.name=s)).map (·.2)
 |_=>none
theorem zJ(A:List (ay × Value))(v:ay)(x:Value)(h:A.find? (fun p=>decide (p.1.name=v.name))=none)(key:Value):rO (A++[(v,x)]) key=upd (rO A) (.string v.name) x key:=by
 by_cases hk:key=.string v.name
 ·subst hk;rw[upd_same];show((A++[(v,x)]).find? fun p=>decide (p.1.name=v.name)).map _=_;rw[tD,h];simp
 rw[bP hk];unfold rO;split
 ·rename_i s;have:¬v.name=s:=fun e=>hk Tdt;rw[tD];simp[this]
 rfl
structure gQ(B:Nat)(w:World)(bm:Nat)(F9:List ay)(A:List (ay × Value)):Prop where
 map:bi prog 9 w bm A.length (rO A)
 fd:∀nm,(A.find? fun p=>decide (p.1.name=nm)).map (·.1)=aM F9 nm
 rd:∀p∈A,b6 aF 1 (fun b=>B<=b) w [p.2] (kY p.1)
 le:A.length<=F9.length
theorem gQ.below(h:gQ B w bm F9 A)(hb:Below w.heap.size w w'):gQ B w' bm F9 A :=
 ⟨h.map.block (hb.block _ h.map.lt),h.fd,fun p hp=>(b6.moves aF.moves).mv (Mv.of hb) (h.rd p hp),h.le⟩
theorem FM(w:World):(zeroValue 27).run prog w=.ok (.slice none 0 0) w:=by kernel_rfl
theorem gQ.look(h:gQ B w bm F9 A)(nm:ByteArray)(hn:nm.size<=maxLen) :
  ∃(p:Option Addr) (c:Nat),(Instr.lookup 138 (.map (some bm)) (.string nm) true).run prog w=.ok (.tuple #[.slice p ((dU F9 nm).getD []).length c,.bool (aM F9 nm).isSome]) w /\
   (Instr.lookup 138 (.map (some bm)) (.string nm) false).run prog w=.ok (.slice p ((dU F9 nm).getD []).length c) w/\b6 aF 1 (fun b=>B<=b) w [.slice p ((dU F9 nm).getD []).length c] ((dU F9 nm).getD []):=by
 have hlk:=bi.look h.map oM underlying138 (FM w) (key:=.string nm) (gG nm hn);have hf:=h.fd nm;have e0:rO A (.string nm)=(A.find? fun p=>decide (p.1.name=nm)).map (·.2):=rfl;cases ha:A.find? (fun p=>decide (p.1.name=nm))with
 |none =>
  rw[ha]at hf e0;have hf':aM F9 nm=none:=hf.symm;have hl:(dU F9 nm).getD []=[]:=by unfold dU;rw[hf'];rfl
  rw[e0]at hlk;rw[hl,hf'];exact⟨none,0,hlk.2,hlk.1,b6.nil⟩
 |some p =>
  rw[ha]at hf e0;have hf':aM F9 nm=some p.1:=hf.symm;have hl:(dU F9 nm).getD []=kY p.1:=by unfold dU;rw[hf'];rfl
  rw[e0]at hlk;have hr:=h.rd p (eV ha);obtain⟨q,c,e,_,_⟩:=hr.cap;rw[hl,hf'];refine⟨q,c,?_⟩;rw[<- e];exact⟨hlk.2,hlk.1,hr⟩
theorem qh(h:F9[k]?=some v)(nm:ByteArray):aM (F9.take (k+1)) nm=(aM (F9.take k) nm).or (if v.name=nm then some v else none):=by
 unfold aM;rw[take_snoc' F9 k v h,tD];congr 1
 by_cases e:v.name=nm<;>simp[e]
theorem gQ.skip(h:gQ B w bm (F9.take k) A)(hv:F9[k]?=some v)(hs:(aM (F9.take k) v.name).isSome=true):gQ B w bm (F9.take (k+1)) A :=
 ⟨h.map,fun nm=>by
  rw[h.fd nm,qh hv nm];by_cases e:v.name=nm
  ·subst e;obtain⟨x,hx⟩:=Option.isSome_iff_exists.1 hs;rw[hx];rfl
  rw[bh e];simp,h.rd,cA h.le (by rw[ey,ey];omega)⟩
theorem gQ.snoc{x:Value}(h:gQ B w bm (F9.take k) A)(hv:F9[k]?=some v)(hs:(aM (F9.take k) v.name).isSome=false)(hr:b6 aF 1 (fun b=>B<=b) w [x] (kY v))
  (hm:bi prog 9 w' bm (A.length+1) (upd (rO A) (.string v.name) x)) (hg:w.grownBy w' (some bm)):gQ B w' bm (F9.take (k+1)) (A++[(v,x)]):=by
 have hnone:A.find? (fun p=>decide (p.1.name=v.name))=none:=by
  have:=h.fd v.name;cases ha:A.find? (fun p=>decide (p.1.name=v.name))with
  |none=>rfl
  |some p=>rw[ha]at this;rw[<- this]at hs;cases hs
 have Hv:∀(b:Nat) (cs:Array Value) (t:TypeId) (z:Nat × Nat),w.heap[b]?=some (.cells cs t z)->w'.heap[b]?=w.heap[b]?:=fun b cs t z hb=>oJ hg (aq hb) (fun e=>h.map.ne (e ▸ hb) rfl)
 have C4:∀ {y:Value} {l:List ByteArray},b6 aF 1 (fun b=>B<=b) w [y] l->b6 aF 1 (fun b=>B<=b) w' [y] l:=fun {y l} hy=>by
  obtain⟨p,c,e,h1,h2,h3⟩:=hy;refine⟨p,c,e,h1,h2,fun h0=>?_⟩;obtain⟨b,off,e2,hlt,gw,hc⟩:=h3 h0;have Hh:w'.heap[b]?=w.heap[b]?:=by
   obtain⟨x0,hx0⟩:=aj l 0 h0;obtain⟨us,ez,eE,hcv⟩:=hc 0 x0 hx0;obtain rfl:us=_:=eE;have:=hcv 0 _ rfl;unfold World.cell? at this;cases hb:w.heap[b]? with
   |none=>rw[hb]at this;simp at this
   |some o =>
    cases o with
    |cells cs t z=>exact(Hv b cs t z hb).trans hb
    |map es c=>rw[hb]at this;simp at this
    |_=>rw[hb]at this;simp at this
  exact⟨b,off,e2,cC hlt hg.size,gw,fun i x hx=>by
   obtain⟨us,ez,eE,hcv⟩:=hc i x hx;exact⟨us,ez,eE,fun j z hz=>(cd (a:=⟨b,_,none⟩) Hh).trans (hcv j z hz)⟩⟩
 refine⟨?_,fun nm=>?_,fun p hp=>?_,?_⟩
 ·rw[cD];exact hm.congr fun key _ _=>zJ A v x hnone key
 ·rw[tD,qh hv nm,<- h.fd nm]
  cases A.find? (fun p=>decide (p.1.name=nm))with
  |none=>by_cases e:v.name=nm<;>simp[e]
  |some p=>simp
 ·rcases List.mem_append.1 hp with hp|hp
  ·exact C4 (h.rd p hp)
  obtain rfl:=List.mem_singleton.1 hp;exact C4 hr
 have:=h.le;have:=(List.getElem?_eq_some_iff.1 hv).1;rw[cD,ey]at *;simp only[cS,Ox];omega
structure uw(g:af):Prop where
 sz:JT g
 vn:∀v∈g.F9,v.name.size<=maxLen
 ul:∀v∈g.F9,(kY v).length<=1000
 un:∀v∈g.F9,∀x∈kY v,x.size<=maxLen
 vl:g.F9.length<=1000
def Fs(B:Nat)(F9:List ay)(w:World)(e:Ending)(w':World):Prop:=∃bm A,e=.returned (.map (some bm))/\gQ B w' bm F9 A/\Below w.heap.size w w'/\w.heap.size<=bm
attribute [local go_sem] run_makeMap_plain
theorem AU{ok:Nat->Prop}(g:af)(a:bN)(w:World)(hr:b6 aN 6 ok w [.slice a.vp g.F9.length a.vc] g.F9)(hu:uw g) :
  Calls prog 96 #[.agg (Tad g a)] w (Fs w.heap.size g.F9 w):=by
 have HG:=aa hr;have HU:=aa hu;have mb:=hu.vl;obtain⟨vp,vc,sT,ao8,ap0⟩:=hr.cap;clear hr hu;injection sT with e1 e2 e3;obtain⟨ID,TJ,TK,G3,G4,Ge,Hb,Hc⟩:=a;dsimp only at e1 e2 e3;subst e1;subst e3;clear e2;have hA1:=ae w (.cells (Tan g ID TJ TK G3 G4 Ge Hb Hc) 32);have hA2:=ae (w.alloc (.cells (Tan g ID TJ TK G3 G4 Ge Hb Hc) 32)) (.map #[] 0);have hN1:=b9 w (.cells (Tan g ID TJ TK G3 G4 Ge Hb Hc) 32);have hm1:=bi.made prog 9 (w.alloc (.cells (Tan g ID TJ TK G3 G4 Ge Hb Hc) 32));rw[cW]at hm1;have Oa:=aa ((hA2.block _ (aq hN1)).trans hN1);clear hN1;have Nf:=aa hm1;clear hm1;have cU:=aa (hA1.trans (hA2.mono hA1.size));clear hA1 hA2;go_enter func96,ntmps96
 go_upto_region 2 with(fail);generalize hW1:World.alloc (World.alloc w _) _=W1 at *;clear hW1;have g7:=cr Oa.o 7 _ rfl;have HLK:=aa (show gQ w.heap.size W1 (w.heap.size+1) (g.F9.take 0) [] from⟨Nf.o.congr (fun key _ _=>by unfold rO;split<;>rfl),fun nm=>by simp[aM],fun p hp=>absurd hp TcO,TcO⟩);clear Nf Oa;go_upto_region 3 with(fail);clear g7;go_loopw[12] (fun i wr=>∃k:Nat,k<=g.F9.length/\i=.int .i64 k/\Below w.heap.size w wr/\∃A,gQ w.heap.size wr (w.heap.size+1) (g.F9.take k) A) (fun i _=>g.F9.length-(intOf i).toNat)
 exact⟨0,cg _,rfl,cU.o,_,HLK.o⟩;clear cU HLK;obtain⟨k,hk,rfl,hB,A,hlk⟩:=hrel;have HB:=aa hB;clear hB;have HLK:=aa hlk;clear hlk;by_cases hlt:k<g.F9.length
 ·obtain⟨v,hv⟩:=aj g.F9 k hlt;obtain⟨b,off,us,rfl,gR,cX,ez,eE,hcv⟩:=HG.o.elem hv;have Zr:=ct hv;have hns:=HU.o.vn v Zr;have HVU:=aa (HU.o.ul v Zr);have HVZ:=aa (HU.o.sz.vz v Zr);have XU:=aa eE;obtain⟨tv,sv,rfl,ew,fL⟩:=eE;obtain⟨tp,tc,rfl,_,_⟩:=ew.cap;obtain⟨sp,sc,rfl,_,_⟩:=fL.cap;have cT:wr.heap[b]?=w.heap[b]?:=HB.o.block b cX;obtain⟨q0,q1,q2,q3,q4,q5⟩:=NG cT hcv;have HV:=aa hv;clear hcv ez cT ew fL Zr hv;have hA:=ae wr (.cells (Taf v tp tc sp sc) 57);have zv:=aa (b9 wr (.cells (Taf v tp tc sp sc) 57));have cm:=Zbl HB hA;have aq4:=aa (HLK.o.below hA);clear hA;go_upto_region 5 with(fail);clear q0 q1 q2 q3 q4 q5;generalize hW2:World.alloc wr _=W2 at *;generalize XK:wr.heap.size=Bv at *;clear hW2 HB HLK;have v0:=cr zv.o 0 _ rfl;obtain⟨lp,lc,hl1,-,-⟩:=aq4.o.look v.name hns;cases Po:(aM (g.F9.take k) v.name).isSome with
  |true =>
   rw[Po]at hl1;have RG:=aa (aq4.o.skip HV.o Po);have YC:=aa Po;clear Po;go_wp2;go_roundw;exact⟨k+1,TcN,TcR,cm.o,_,RG.o⟩;simp[intOf];omega
  |false =>
   rw[Po]at hl1;have YC:=aa Po;clear Po;go_upto_region 7 with(fail);clear hl1 v0;have hS:∀w':World,Below W2.heap.size W2 w'->(w'.cell? Bv=some (.string v.name)/\w'.cell? (Tac Bv 1)=some (.int .u64 v.id)/\w'.cell? (Tac Bv 2)=some (.bool v.hidden)/\w'.cell? (Tac Bv 3)=some (.bool v.ro)/\w'.cell? (Tac Bv 4)=some (.slice tp v.tags.length tc)/\w'.cell? (Tac Bv 5)=some (.slice sp v.Gf.length sc)):=fun w' e=>by
    have h2:=(e.block Bv (aq zv.o)).trans zv.o;exact⟨cr h2 _ _ rfl,cr h2 _ _ rfl,cr h2 _ _ rfl,cr h2 _ _ rfl,cr h2 _ _ rfl,cr h2 _ _ rfl⟩
   have HS:=aa hS;clear hS;refine aZ (fun w'=>w'.cell? Bv=some (.string v.name)/\w'.cell? (Tac Bv 1)=some (.int .u64 v.id)/\w'.cell? (Tac Bv 2)=some (.bool v.hidden)/\w'.cell? (Tac Bv 3)=some (.bool v.ro)/\w'.cell? (Tac Bv 4)=some (.slice tp v.tags.length tc)/\w'.cell? (Tac Bv 5)=some (.slice sp v.Gf.length sc)) 5 [] TcP (HS.o _ (bj W2.heap.size W2).drew) (fun hHeld=>?_);refine fS 0 hHeld ?_;refine fS 1 hHeld ?_;refine fS 2 hHeld ?_;refine fS 3 hHeld ?_;refine lR 4 fun K hK=>?_;go_simp;refine(BH (ok:=ok) v _ _ (aN.moves.mv (Mv.of (cm.o.trans ((bj W2.heap.size W2).drew.mono cm.o.size))) XU.o) HVZ.o (by have:=HVU.o;omega)).mono ?_;rintro e w3 ⟨uv,rfl,how,hb3⟩;have cJ:Hid (Below W2.heap.size W2 w3):=aa ⟨hb3.os,hb3.tape,hb3.output,hb3.size,hb3.block⟩;have V6:Hid (b6 aF 1 (fun b=>w.heap.size<=b) w3 [uv] (kY v)):=aa (how.rd fun b e=>cA cm.o.size (fh how b e).1);clear how hb3;refine hK.o _ _ (HS.o _ cJ.o) ?_;clear hK K hHeld HS;refine aP TcP rfl ?_;simp only[cQ,cL];have hlen:A.length<=1000:=by have:=aq4.o.le;rw[ey]at this;omega
   obtain⟨w',hst,hm',hg',hz'⟩:=bi.store (aq4.o.below cJ.o).map oM underlying138 (rr hlen TcQ) (gG v.name hns) uv;have G1:=aa ((aq4.o.below cJ.o).snoc HV.o YC.o V6.o hm' hg');have eI:Hid (Below w.heap.size w w'):=aa ((cm.o.trans (cJ.o.mono cm.o.size)).trans ((cR.grown hg').below (B:=w.heap.size) (cA cm.o.size cJ.o.size) (fun q e=>by omega)));clear hm' hg' hz';go_wp2;go_roundw;exact⟨k+1,TcN,TcR,eI.o,_,G1.o⟩;simp[intOf];omega
 obtain rfl:k=g.F9.length:=by omega
 rw[cI]at HLK;go_wp2;go_ret;exact⟨_,_,rfl,HLK.o,HB.o,TcN⟩
end Go.Proofs.YtillcmhjhajimaaGreatDoor
namespace Go.Proofs.YtillcmhjhajimaaGreatDoor
open Go.Proofs.Tryz
open Go.RowKit Go.Maps Go.Shelf
variable {B b2 n:Nat}{k:TypeId}{f:Value->Option Value}{w w':World}{l:List ByteArray}{g:af}
theorem cR.belowAt{F:Nat->Prop}{a b c:World}(h:cR F a b)(hb:Below a.heap.size b c):cR F a c :=
 ⟨hb.os.trans h.os,hb.tape.trans h.tape,hb.output.trans h.output,cA h.size hb.size,fun k hk hF=>(hb.block k hk).trans (h.block k hk hF)⟩
theorem Eg{y:Value}(hy:b6 aF 1 (fun b=>B<=b) w [y] l)(hm:cR (fun b=>b=b2) w w')(hb:bi prog k w b2 n f):b6 aF 1 (fun b=>B<=b) w' [y] l:=by
 obtain⟨p,c,e,h1,h2,h3⟩:=hy;refine⟨p,c,e,h1,h2,fun h0=>?_⟩;obtain⟨b,off,e2,hlt,gw,hc⟩:=h3 h0;have Hh:w'.heap[b]?=w.heap[b]?:=by
  refine hm.block b hlt ?_;rintro rfl;obtain⟨x0,hx0⟩:=aj l 0 h0;obtain⟨us,ez,eE,hcv⟩:=hc 0 x0 hx0;obtain rfl:us=_:=eE;have:=hcv 0 _ rfl;obtain⟨D,⟨es,clock,e,_⟩,_⟩:=hb;simp[World.cell?,e]at this
 exact⟨b,off,e2,cC hlt hm.size,gw,fun i x hx=>by
  obtain⟨us,ez,eE,hcv⟩:=hc i x hx;exact⟨us,ez,eE,fun j z hz=>(cd (a:=⟨b,_,none⟩) Hh).trans (hcv j z hz)⟩⟩
theorem gQ.mod{bm:Nat}{F9:List ay}{A:List (ay × Value)}(h:gQ B w bm F9 A)(hm:cR (fun b=>b=b2) w w')(hb:bi prog k w b2 n f)(hne:bm≠b2):gQ B w' bm F9 A :=
 ⟨h.map.block (hm.block _ h.map.lt hne),h.fd,fun p hp=>Eg (h.rd p hp) hm hb,h.le⟩
theorem ww{ok:Nat->Prop}:∀(l:List ByteArray) (cs:List Value),Flat aF 1 ok w cs l->cs=l.map Value.string
 |[],cs,h=>h
 |x :: l,cs,⟨u,r,e,_,hv,_,hr⟩=>by
  obtain rfl:u=[.string x]:=hv;rw[e,ww l r hr];rfl
theorem yG{ok:Nat->Prop}(l:List ByteArray)(v:Value)(w:World)(hr:b6 aF 1 ok w [v] l)(hlen:l.length<=1000000) :
  Calls prog 53 #[v] w (Dx w.heap.size w l):=by
 by_cases h0:0<l.length
 ·obtain⟨i0,hi,hz0,hz1,hz2⟩:=gg o5;obtain⟨p,cap,e,hlc,ij,hp⟩:=hr;obtain rfl:=List.singleton_inj.1 e;obtain⟨b,off,rfl,cX,gR,hc⟩:=hp h0;obtain⟨cs,hf,hcs⟩:=jy (fun u x h y hy=>by obtain rfl:u=_:=h;obtain rfl:=List.mem_singleton.1 hy;rfl) l off hc;have hl:=Flat.length l cs hf;have hlb:l.length*16<=1000000*16:=ue hlen (bk _);refine(AnyE.slices_Clone Tryz.cloneS i0 _ 1 16 hi hz0 hz1 hz2 rfl TcQ Tryz.sizeOf9 b off l.length cap cs w hl TcW TcN hcs (qZ l cs hf)).mono ?_;rintro e w' ⟨v',rfl,ho,_,hb'⟩;refine⟨v',rfl,?_,hb'⟩;unfold dF;rw[<- ww l cs hf];exact ho
 obtain⟨p,c,rfl,hr'⟩:=vB hr h0 (fun b=>ok b\/w.heap.size<=b) w;clear hr;have HR:=aa hr';clear hr';have HN:Hid (l=[]):=aa (fX TcN);clear h0 hlen;cases p with
 |none =>
  refine(AnyE.slices_Clone_nil Tryz.cloneS _ _ w).mono ?_;rintro e w' ⟨rfl,rfl⟩;exact⟨_,rfl,by rw[HN.o];exact dF.nil _ _,bj _ _⟩
 |some a =>
  have q22:∀(w:World) (a:Option Addr) (n c n' c':Nat),(binOp .eql 27 (.slice a n c) (.slice none n' c')).run prog w=.ok (.bool a.isNone) w:=fun w a n c n' c'=>Cl w _ _ a n c n' c' underlying27;go_enter func53,ntmps53;go_wp2;go_ret;exact⟨.slice (some ⟨w.heap.size,0,none⟩) 0 0,rfl,by rw[HN.o];exact⟨rfl,.inr ⟨w.heap.size,0,#[],rfl,bk _,b9 w _,bk _,TcW,rfl,rfl⟩⟩,(RowKit.Below.refl _ _).alloc (bk _) _⟩
theorem dF.last{v:Value}{x:ByteArray}(h:dF w B v (l++[x])) :
  ∃g cap,v=.slice (some ⟨g,0,none⟩) (l.length+1) cap/\l.length+1<=cap/\cap<=9223372036854775807/\w.cell? ⟨g,l.length,none⟩=some (.string x)/\dF w B (.slice (some ⟨g,0,none⟩) l.length cap) l:=by
 have h':w.ownsRow B 9 1 v (l.length+1) (l.map Value.string++[.string x]):=by
  unfold dF at h;rw[cD,gl]at h;exact h
 obtain⟨g,cap,hv,hB,hlt⟩:=h'.form TcN;subst hv;have hc:=h'.cells (g:=g) rfl l.length (.string x) (by rw[Cp TcO];simp);rw[iz,eJ]at hc;have ij:l.length+1<=cap/\cap<=maxLen:=by
  rcases h'.2 with⟨e,_⟩|⟨g',cap',cur,e,_,_,h1,h2,_⟩
  ·cases e
  cases e
  exact⟨h1,h2⟩
 unfold maxLen at ij;exact⟨g,cap,rfl,ij.1,ij.2,hc,ownsRow_pop TcO h'⟩
theorem I1(hu:uw g)(nm:ByteArray):((dU g.F9 nm).getD []).length<=1000:=by
 unfold dU;cases hf:aM g.F9 nm with
 |none=>simp
 |some v=>exact hu.ul v (eV hf)
theorem rW(hu:uw g)(nm:ByteArray):∀x∈(dU g.F9 nm).getD [],x.size<=maxLen:=by
 unfold dU;cases hf:aM g.F9 nm with
 |none=>simp
 |some v=>exact hu.un v (eV hf)
def ET(F9:List ay)(nm:ByteArray)(w:World)(e:Ending)(w':World):Prop:=∃bm met,e=.returned (.map (some bm))/\bi prog 9 w' bm met.length (oN met)/\(∀x,x∈met↔Reach (dU F9) ((dU F9 nm).getD []) x)/\met.length<=1000/\Below w.heap.size w w'/\w.heap.size<=bm
attribute [local go_sem] run_makeMap_plain
theorem TeF{p:Prop}(h:p:=by have:=lw (g.F9.map (·.name)) 1000 met init x;have:=Mt.o;omega):p:=h
theorem AY{ok:Nat->Prop}(g:af)(a:bN)(nm:ByteArray)(w:World)(hr:b6 aN 6 ok w [.slice a.vp g.F9.length a.vc] g.F9)(hu:uw g)(pD:nm.size<=maxLen) :
  Calls prog 49 #[.agg (Tad g a),.string nm] w (ET g.F9 nm w):=by
 have HG:=aa hr;clear hr;have HU:=aa hu;clear hu;have cU:=aa (ae w (.cells (Tad g a) 32));have hN1:=b9 w (.cells (Tad g a) 32);have gL:=cr hN1;go_enter func49,ntmps49
 go_upto_region 1 with(fail);generalize hW1:World.alloc w _=W1 at *;obtain⟨g0,g1,g2,g3,g4,g5,g6,g7,g8⟩:=xr gL;clear gL hN1 hW1;go_wp2_with fail;clear g0 g1 g2 g3 g4 g5 g6 g7 g8;refine(AU (ok:=ok) g a W1 ((b6.moves aN.moves).mv (Mv.of cU.o) HG.o) HU.o).mono ?_;rintro e w2 ⟨bl,A,rfl,hlk,hb2,hbl⟩;have HLK:=aa hlk;clear hlk;have cm:=Zbl cU hb2;clear hb2 hbl cU;have hA:=ae w2 (.map #[] 0);have HM:=aa (bi.made prog 9 w2);have aq4:=aa (HLK.o.below hA);have cJ:=Zbl cm hA;have hlt:=HLK.o.map.lt;have mA:=cm.o.size;clear hA HLK cm;go_upto_region 3 with(fail);generalize hW3:World.alloc w2 _=W3 at *;generalize Hv:w2.heap.size=bm at *;clear hW3;obtain⟨p0,c0,-,hl2,hr0⟩:=aq4.o.look nm pD;have HR0:=aa hr0;clear hr0;have hlen0:=I1 HU.o nm;have my:=aa (rW HU.o nm);generalize hl0:(dU g.F9 nm).getD []=l0 at *;have QX:=aa hl0;clear hl0;go_wp2_with fail;clear hl2;refine(yG l0 _ W3 HR0.o TcN).mono ?_;rintro e w4 ⟨td0,rfl,how,hb4⟩;have sq:Hid (cR (fun b=>b=bm) W3 w4):=aa (cR.of_below hb4);have HOW:=aa how;clear how;have Ql:=aa (HM.o.block (hb4.block bm HM.o.lt));clear hb4;have Pp:Hid (nX (dU g.F9) l0 [] l0):=aa nX.start;have hN0:nK (g.F9.map (·.name)) 1000 [] l0<=1002000:=by
  have h1:=Ae (g.F9.map (·.name)) [];rw[fW]at h1;have h2:=HU.o.vl;have h3:(BG (g.F9.map (·.name)) [])*1001<=1000*1001:=tA _ TcN;unfold nK;unfold BG at h3;omega
 have tj:Hid (bi prog 9 w4 bm 0 (oN [])):=aa (Ql.o.congr fun key _ _=>by unfold oN;split<;>rfl);clear Ql;go_upto_region 4 with(fail);go_loopg [7] (nK (g.F9.map (·.name)) 1000 [] l0) (fun gk td wr=>∃met todo:List ByteArray,dF wr W3.heap.size td todo/\cR (fun b=>b=bm) W3 wr/\bi prog 9 wr bm met.length (oN met)/\nX (dU g.F9) l0 met todo/\nK (g.F9.map (·.name)) 1000 met todo<=gk/\gk<=1002000/\met.length+BG (g.F9.map (·.name)) met<=1000/\∀x∈todo,x.size<=maxLen)
 exact⟨[],l0,HOW.o,sq.o,tj.o,Pp.o,bk _,hN0,by have:=Ae (g.F9.map (·.name)) [];have:=HU.o.vl;rw[fW]at *;simp only[Ox];omega,my.o⟩;clear HOW sq tj Pp hN0 my hlen0;obtain⟨met,todo,how,Gk,C4,YD,hbn,hgk,QM,hsz⟩:=hrel;have HOW:=aa how;clear how;have sq:=aa Gk;clear Gk;have tj:=aa C4;clear C4;have Pp:=aa YD;clear YD;have Mt:=aa hbn;clear hbn;have RH:=aa QM;clear QM;have Zu:=aa hsz;clear hsz;have fy:Hid (Below w.heap.size w wr):=aa (cJ.o.trans (sq.o.below cJ.o.size (fun b e=>by omega)));have YE:=HM.o.lt;rcases List.eq_nil_or_concat todo with NN|⟨init,x,NN⟩
 ·subst NN;obtain⟨tp,tc,e,_,_⟩:=(HOW.o.rd (ok:=fun _=>True) (fun _ _=>trivial)).cap;subst e;go_wp2;go_ret;exact⟨bm,met,rfl,tj.o,by rw[QX.o];exact Pp.o.done,by have:=RH.o;omega,fy.o,TcN⟩
 rw[List.concat_eq_append]at NN;subst NN;obtain⟨gb,cap,e,hc1,hc2,hcell,RI⟩:=HOW.o.last;subst e;have ab1:init.length<=1002000:=by
  have:=Mt.o;unfold nK at this;rw[cD]at this;omega
 have LN:=aa RI;clear RI;have hxs:=Zu.o x TcO;have Pq:=aa (aq4.o.mod sq.o HM.o TcN);obtain⟨lp,lc,hl1,-,-⟩:=Pq.o.look x hxs;have hmk:=(bi.look tj.o oM underlying102 (wY wr) (key:=.string x) (gG x hxs)).1;rw[xk]at hmk;have Uk:Hid ((dU g.F9 x).isSome=(aM g.F9 x).isSome):=aa (by unfold dU;simp);clear HOW;cases hf:(aM g.F9 x).isSome with
 |false =>
  rw[hf]at hl1 Uk;have HF:=aa hf;clear hf hmk;have RG:=aa (Pp.o.skip (.inl Uk.o));go_wp2;go_roundg (nK (g.F9.map (·.name)) 1000 met init)
  case measure=>exact cC (lw _ _ _ _ _) Mt.o
  exact⟨met,init,LN.o,sq.o,tj.o,RG.o,bk _,TeF,RH.o,fun y hy=>Zu.o y (ju _ hy)⟩
 |true =>
  rw[hf]at hl1 Uk;cases hh:bI met x with
  |true =>
   rw[hh]at hmk;have HF:=aa hf;clear hf;have RG:=aa (Pp.o.skip (.inr (ny.1 hh)));have HH:=aa hh;clear hh;go_wp2;go_roundg (nK (g.F9.map (·.name)) 1000 met init)
   case measure=>exact cC (lw _ _ _ _ _) Mt.o
   exact⟨met,init,LN.o,sq.o,tj.o,RG.o,bk _,TeF,RH.o,fun y hy=>Zu.o y (ju _ hy)⟩
  |false =>
   rw[hh]at hmk;have as6:x∈g.F9.map (·.name):=by
    obtain⟨v,hv⟩:=Option.isSome_iff_exists.1 hf;exact List.mem_map.2 ⟨v,eV hv,by simpa using List.find?_some hv⟩
   have hlx:dU g.F9 x=some ((dU g.F9 x).getD []):=by
    obtain⟨l,hl⟩:=Option.isSome_iff_exists.1 Uk.o;rw[hl];rfl
   have hxm:=lX.1 hh;have Pr:=aa (Pp.o.more hlx);have Rn:=I1 HU.o x;have HLZ:=aa (rW HU.o x);have YF:=aa (Ap (g.F9.map (·.name)) 1000 met init ((dU g.F9 x).getD []) x as6 hxm Rn);have HCM:=aa (Bn (g.F9.map (·.name)) met x as6 hxm);clear as6 hlx hxm;have HF:=aa hf;clear hf;have HH:=aa hh;clear hh;obtain⟨w',hst,hm',hg',hz'⟩:=bi.store tj.o oM underlying102 (by have:=RH.o;unfold maxLen;omega) (key:=.string x) (gG x hxs) (.bool true);obtain⟨qp,qc,-,hl2,T9⟩:=(Pq.o.mod (cR.grown hg') tj.o TcN).look x hxs;have HQR:=aa T9;clear T9;have RJ:Hid (dF w' W3.heap.size (.slice (some gb) init.length cap) init):=aa (LN.o.blk fun k e=>oJ hg' (fh LN.o k e).2 (by have:=(fh LN.o k e).1;omega));have LO:=aa (sq.o.trans (cR.grown hg') (fun i e=>.inl e));have Nn:Hid (bi prog 9 w' bm (met.length+1) (oN (met++[x]))):=aa (hm'.congr fun key _ _=>uH met x key);have aj8:=LO.o.size;clear hm' hg' hz' Pq;generalize YG:(dU g.F9 x).getD []=lx at *;have Vj:=aa YG;clear YG;go_wp2_with(at_builtin;refine mW (ok:=fun b=>W1.heap.size<=b) rfl _ _ rfl W3.heap.size _ init lx rfl ?c1 qp qc rfl ?c2 ?c3 ?c4 ?_)
   case c1=>exact RJ.o
   case c2=>exact HQR.o
   case c3=>omega
   intro v' w5 hown5 hb5 _;have HOW5:=aa hown5;clear hown5;have We:=aa (LO.o.belowAt hb5);have Np:=aa (Nn.o.block (hb5.block bm (by have:=HM.o.lt;omega)));clear hb5;go_wp2;go_roundg (nK (g.F9.map (·.name)) 1000 (met++[x]) (init++lx))
   case measure=>exact cC YF.o Mt.o
   exact⟨met++[x],init++lx,HOW5.o,We.o,by rw[cD];exact Np.o,Pr.o,bk _,by have:=YF.o;have:=Mt.o;omega,by have:=HCM.o;have:=RH.o;rw[cD];simp only[cS,Ox];omega,fun y hy=>by
    rcases List.mem_append.1 hy with hy|hy
    ·exact Zu.o y (ju _ hy)
    exact HLZ.o y hy⟩
end Go.Proofs.YtillcmhjhajimaaGreatDoor
namespace Go.Proofs.YtillcmhjhajimaaGreatDoor
open Go.Proofs.Tryz
open Go.RowKit Go.Maps Go.Shelf
theorem TbS{p:Prop}(h:p:=by
 ·obtain rfl:k=l.length:=by omega
  rw[cI]at cE;go_wp2;go_ret;exact⟨⟨-1,rfl,by rw[cE.o];rfl⟩,rfl⟩):p:=h
theorem TcG{p:Prop}(h:p:=by
 go_wp2;go_round;exact⟨k+1,TcN,TcR,HR.o⟩;simp[intOf];omega):p:=h
theorem yo{ok:Nat->Prop}(l:List ByteArray)(x:ByteArray)(v:Value)(w:World)(h:b6 aF 1 ok w [v] l)(hl:l.length<=1000000) :
  Calls prog 97 #[v,.string x] w fun e w'=>(∃r:Int,e=.returned (.int .i64 r)/\decide (0<=r)=bI l x)/\w=w':=by
 obtain⟨p,cap,rfl,hc1,hc2⟩:=h.cap;have HH:=aa h;clear h;go_enter func97,ntmps97;go_wp2
 go_loop[8,5] (fun i _=>∃k:Nat,k<=l.length/\i=.int .i64 k/\bI (l.take k) x=false) (fun i _=>l.length-(intOf i).toNat)
 exact⟨0,cg _,rfl,rfl⟩;obtain⟨k,hk,rfl,hall⟩:=hrel;have cE:=aa hall;clear hall;by_cases hlt:k<l.length
 ·obtain⟨y,hy⟩:=aj l k hlt;obtain⟨b,off,us,rfl,gR,cX,ez,eE,hcv⟩:=HH.o.elem hy;obtain rfl:us=_:=eE;have q0:=hcv 0 _ rfl;rw[fp,fg]at q0;have ap1:Hid (bI (l.take (k+1)) x=decide (y=x)):=aa (by rw[take_snoc' l k y hy,fU,cE.o,nj]);have AE:Hid (y=x->bI l x=true):=aa fun h=>ny.2 (h ▸ ct hy);clear hy cE hcv ez
  by_cases Ob:y=x
  ·have hb:(x.toList==y.toList)=true:=by rw[Ob];simp
   have HR:=aa (AE.o Ob);have HYX:=aa Ob;clear Ob;go_wp2;go_ret;exact⟨⟨k,rfl,by rw[HR.o];simp⟩,rfl⟩
  have hb:(x.toList==y.toList)=false:=by
   rw[Bool.eq_false_iff];intro e;rw[A6,A6]at e;have e2:x.data.toList=y.data.toList:=by simpa using e
   exact Ob (by rw[bytes_eta y,bytes_eta x,e2])
  have HR:=aa (ap1.o.trans (cN Ob));have HYX:=aa Ob;clear Ob;exact TcG
 exact TbS
theorem TbY{p:Prop}(h:p:=by
 rintro e w2 ⟨⟨r,rfl,hr2⟩,rfl⟩;have HR:=aa hr2;clear hr2;go_wp2;go_ret;exact⟨ah HR.o,rfl⟩):p:=h
theorem eT{ok:Nat->Prop}(l:List ByteArray)(x:ByteArray)(v:Value)(w:World)(h:b6 aF 1 ok w [v] l)(hl:l.length<=1000000) :
  Calls prog 52 #[v,.string x] w fun e w'=>e=.returned (.bool (bI l x))/\w=w':=by
 go_enter func52,ntmps52
 go_wp2_with fail;refine(yo l x v w h hl).mono ?_;exact TbY
theorem zt(x:ByteArray)(Bx bm n:Nat)(met:List ByteArray)(w:World)(hx:w.cell? Bx=some (.map (some bm)))(hm:bi prog 9 w bm n (oN met))(hs:x.size<=maxLen) :
  Calls prog 51 #[.string x,.pointer (some Bx)] w fun e w'=>e=.returned (.bool (bI met x))/\w=w':=by
 have hmk:=(bi.look hm oM underlying102 (wY w) (key:=.string x) (gG x hs)).1;rw[xk]at hmk;clear hm;go_enter func51,ntmps51;go_wp2;go_ret;exact⟨rfl,rfl⟩
theorem Tev{p:Prop}(h:p:=by rw[sY.o];exact HOW4.o):p:=h
theorem Td2{p:Prop}(h:p:=by rw[sY.o];exact HOW2.o):p:=h
theorem Dw{ok:Nat->Prop}(g:af)(a:bN)(Bx bm n:Nat)(met:List ByteArray)(w:World)(hr:b6 aN 6 ok w [.slice a.vp g.F9.length a.vc] g.F9)(hu:uw g)(hx:w.cell? Bx=some (.map (some bm)))(PX:Bx<w.heap.size)(hm:bi prog 9 w bm n (oN met)) :
  Calls prog 50 #[.agg (Tad g a),.func (.func 51) #[] #[.pointer (some Bx)]] w (Dx w.heap.size w (gD ay.name (bI met) g.F9)):=by
 have HG:=aa hr;have HU:=aa hu;have HM:=aa hm;clear hm;have HX:=aa hx;clear hx;have mb:=hu.vl;obtain⟨vp,vc,sT,ao8,ap0⟩:=hr.cap;clear hr hu;injection sT with e1 e2 e3;obtain⟨ID,TJ,TK,G3,G4,Ge,Hb,Hc⟩:=a;dsimp only at e1 e2 e3;subst e1;subst e3;clear e2;have HB:=aa (ae w (.cells (Tan g ID TJ TK G3 G4 Ge Hb Hc) 32));have g7:(w.alloc (.cells (Tan g ID TJ TK G3 G4 Ge Hb Hc) 32)).cell? (Tac w.heap.size 7)=some (.slice G4 g.F9.length Ge):=aD rfl rfl;go_enter func50,ntmps50
 go_upto_region 3 with(fail);generalize hW1:World.alloc w _=W1 at *;clear hW1 g7;go_loopw[5,11] (fun l i wr=>∃k:Nat,k<=g.F9.length/\i=.int .i64 k/\dF wr w.heap.size l (gD ay.name (bI met) (g.F9.take k))/\Below w.heap.size w wr) (fun _ i _=>g.F9.length-(intOf i).toNat)
 exact⟨0,cg _,rfl,dF.nil _ _,HB.o⟩;clear HB;obtain⟨k,hk,rfl,hown,hB⟩:=hrel;have HOW:=aa hown;clear hown;have HB:=aa hB;clear hB;have hpl:=lq ay.name (bI met) (g.F9.take k);rw[ey]at hpl;by_cases hlt:k<g.F9.length
 ·obtain⟨v,hv⟩:=aj g.F9 k hlt;obtain⟨b,off,us,rfl,gR,cX,ez,eE,hcv⟩:=HG.o.elem hv;have hns:=HU.o.vn v (ct hv);obtain⟨tv,sv,rfl,ew,fL⟩:=eE;obtain⟨tp,tc,rfl,_,_⟩:=ew.cap;obtain⟨sp,sc,rfl,_,_⟩:=fL.cap;have cT:wr.heap[b]?=w.heap[b]?:=HB.o.block b cX;obtain⟨q0,q1,q2,q3,q4,q5⟩:=NG cT hcv;have sY:=aa (rJ ay.name (bI met) hv);clear hv hcv ez cT ew fL;have hA:=ae wr (.cells (Taf v tp tc sp sc) 57);have zv:=aa (b9 wr (.cells (Taf v tp tc sp sc) 57));have cm:=Zbl HB hA;have HOW2:=aa (HOW.o.below hA);clear hA;go_upto_region 5 with(fail);clear q0 q1 q2 q3 q4 q5;generalize hW2:World.alloc wr _=W2 at *;generalize XK:wr.heap.size=Bv at *;clear hW2 HB HOW;have v0:=cr zv.o 0 _ rfl;have mA:=cm.o.size;have Oa:=aa (zt v.name Bx bm n met W2 ((cm.o.cell (p:=Bx) PX).trans HX.o) (HM.o.block (cm.o.block bm HM.o.lt)) hns);obtain⟨lp,lc,e,_,_⟩:=(HOW2.o.rd (ok:=fun _=>True) (fun _ _=>trivial)).cap;subst e;have HCT:=aa (eT (ok:=fun _=>True) _ v.name _ W2 (HOW2.o.rd (ok:=fun _=>True) (fun _ _=>trivial)) TcN);generalize Ps:gD ay.name (bI met) (g.F9.take k)=pl at *;have RL:=aa Ps;clear Ps;cases hh:bI met v.name with
  |false =>
   rw[hh]at Oa sY;rw[Bool.false_and,bh TcO]at sY;have HH:=aa hh;clear hh;clear HCT;go_wp2_with(refine Oa.o.mono ?_;rintro e w3 ⟨rfl,rfl⟩)
   go_roundw;exact⟨k+1,TcN,TcR,Td2,cm.o⟩;simp[intOf];omega
  |true =>
   rw[hh]at Oa sY;rw[Bool.true_and]at sY;have HH:=aa hh;clear hh;cases hc:bI pl v.name with
   |true =>
    rw[hc]at HCT sY;rw[bh TcO]at sY;have HC:=aa hc;clear hc;go_wp2_with(first|(refine Oa.o.mono ?_;rintro e w3 ⟨rfl,rfl⟩)|(refine HCT.o.mono ?_;rintro e w3 ⟨rfl,rfl⟩))
    go_roundw;exact⟨k+1,TcN,TcR,Td2,cm.o⟩;simp[intOf];omega
   |false =>
    rw[hc]at HCT sY;rw[aw TcO]at sY;have HC:=aa hc;clear hc;go_wp2_with(first|(refine Oa.o.mono ?_;rintro e w3 ⟨rfl,rfl⟩)|(refine HCT.o.mono ?_;rintro e w3 ⟨rfl,rfl⟩)|(at_builtin;refine dz rfl _ _ rfl w.heap.size _ pl v.name rfl ?c1 W2.heap.size 1 rfl ?c2 ?c3 ?c4 ?_))
    case c1=>exact HOW2.o.alloc _
    case c2=>exact aD rfl rfl
    case c3=>omega
    case c4=>simp;omega
    intro v' w1 hown1 hb1 _;have eI:=aa ((cm.o.alloc mA _).trans hb1);have HOW4:=aa hown1;clear hb1 hown1;go_wp2;go_roundw;exact⟨k+1,TcN,TcR,Tev,eI.o⟩;simp[intOf];omega
 obtain rfl:k=g.F9.length:=by omega
 rw[cI]at HOW;go_wp2;go_ret;exact⟨_,rfl,HOW.o,HB.o⟩
end Go.Proofs.YtillcmhjhajimaaGreatDoor
