/- Lemmas: PwA, SpP, BltK, BltL. -/
import Derived.Test.YtaagglbgohjldaaGreatDoorQv28
import Derived.Test.YtaagglbgohjldaaGreatDoorQv39
import Derived.Test.YtaagglbgohjldaaGreatDoorQv37
set_option maxRecDepth 100000
set_option maxHeartbeats 32000000
set_option linter.all false
namespace Go.Proofs.YtaagglbgohjldaaGreatDoor
open Go.Proofs.Tryz
open Go.RowKit Go.Maps Go.Shelf
variable {g g':af}{r:aY}{d:az}{n id e kind l ext:Int}{v:ay}{name c nm on:ByteArray}{s x:aB}{vs vl tl L L':List ay}{ns names:List ByteArray}{ls lengths next next':List Int}{ps:List (ByteArray × Int × Int)}{k j i:Nat}{Gb:List az}
theorem JR (h:nD g (r.pol 2) d=true):nD g (r.pol 3) d=true:=by
 have e:gF g (r.pol 2)=gF g (r.pol 3):=rfl;unfold nD iD at h ⊢;rw [e] at h;simp only [eh] at h ⊢;refine ⟨h.1,h.2.1,by simp [nN,aY.pol],?_⟩;have h3:=h.2.2.1;simp only [nN,aY.pol] at h3;simp only [vE,aY.pol];simpa using .inl Tdc
theorem JS (h:kI g (r.pol 2) d n):kI g (r.pol 3) d n :=
 ⟨JR h.1,by rw [bh (by simp [uM,aY.pol])];exact GG h⟩
theorem Jc (h:kI g (r.pol 3) d n):kI g (r.pol 4) d n:=GY (r:=r.pol 3) h
theorem fH.kinds {w w':World}{B:Nat}{v:Value}{xs:List (List (Int × Int))}(h:fH w B v xs)(hk:∀ (b:Nat) (cs:Array Value) (t:TypeId),w.heap[b]?=some (.cells cs t (0,0))->t=43\/t=55->w'.heap[b]?=w.heap[b]?):fH w' B v xs:=by
 obtain ⟨vs,h1,h2,h3⟩:=h;refine ⟨vs,aC h1 fun k e=>?_,h2,fun i u x hu hx=>?_⟩
 ·rcases h1.2 with ⟨rfl,_⟩ | ⟨gg,cap,cur,rfl,_,hg,_⟩
  ·cases e
  obtain rfl:gg=k:=by injection e
  exact hk _ _ _ hg (.inl rfl)
 have ho:=h3 i u x hu hx;refine ho.blk fun k e=>?_;rcases ho.2 with ⟨rfl,_⟩ | ⟨gg,cap,cur,rfl,_,hg,_⟩
 ·cases e
 obtain rfl:gg=k:=by injection e
 exact hk _ _ _ hg (.inr rfl)
def IJ:jx Value:=fun _ _ vs x=>vs=[x]
theorem IJ.moves:Moves IJ:=⟨fun _ h=>h⟩
theorem KV:(prog.info? 38).map (fun i=>(i.zero,i.size,i.bytes))=some (some (.slice none 0 0),1,24):=by kernel_rfl
theorem dK.setPw (h:dK r)(p:Int)(hp:0<=p/\p<=10):dK (r.pol p):=⟨h.l,h.s,h.e,⟨by show (-9223372036854775808:Int)<=p;omega,by show p<=9223372036854775807;omega⟩,h.t,h.n,h.q⟩
theorem Jw (Q:Exit->Act->World->Prop)(c0 c1 c2 c3 c5 c7 c8 c9 c10 c12 c13 c14 c15 c16 c17 c18 c19 c20 c21 c22 c23 c24 c25 c26 c27 c28 c29 c30 c31 c32 c33 c34 c35 c36 c37 c38 c39 c40 c41 c42 c43 c44 c45 c46 c47 c48 c49 c50 c51 c52 c53 c54 c55 c56 c57 c58 c59 c60 c61 c62 c63 c64 c65 c66 c67 c68 c69 c70 c71 c72 c73 c74 c75 c76 c77 c78 c79 c80 c81 c82 c83 c84 c85 c86 c87 c88 c89 c90 c91 c92 c93 c94 c95 c96 c97 c98 c99 c100 c101 c102 c103 c104 c105 c106 c107 c108 c109 c110 c111 c112 c113 c114 c115 c116 c117 c119 c118:Value)(w:World)(Bg bl b0 b1 b2 k nd cl c00 c01 c02 dc:Nat)(dp:Option Addr)(ux uy uz:Value)
  (hk:k<nd) (hl0:Bg<w.heap.size) (hl1:bl<w.heap.size) (hl2:b0<w.heap.size) (hl3:b1<w.heap.size) (hl4:b2<w.heap.size) (hcs:(w.cell? (Tac Bg 6)=some (.slice dp nd dc)/\w.cell? bl=some (.slice (some b0) nd c00)/\w.cell? (Tac bl 1)=some (.slice (some b1) nd c01)/\w.cell? (Tac bl 2)=some (.slice (some b2) nd c02)/\w.cell? (b0,k)=some ux/\w.cell? (b1,k)=some uy/\w.cell? (b2,k)=some uz))
  (h1:∀ w',Below w.heap.size w w'->Calls prog 11 #[ux,uy,.int .i64 1] w' fun e w''=>∃ p c,e=.returned (.slice p 0 c)/\Below w.heap.size w w'')
  (h2:∀ w',Below w.heap.size w w'->Calls prog 11 #[uy,uz,.int .i64 1] w' fun e w''=>∃ p c,e=.returned (.slice p 0 c)/\Below w.heap.size w w'')
  (HK:Hid (∀ (w':World) (u57 u58 u59 u60 u61 u62 u63 u64 u65 u66 u67 u68 u69 u70 u71 u72 u73 u74 u75 u76 u77 u78 u79 u80 u81 u82 u83 u84 u85 u86 u87 u88 u89 u90 u91 u92 u93 u94 u95 u96 u97 u98 u99 u100 u101 u102 u103 u104 u105 u106 u107 u108 u109 u110 u111 u112 u113 u114 u115 u116 u117:Value),Below w.heap.size w w'->Q .normal ⟨#[c0,c1,c2,c3,.pointer (some Bg),c5,.slice (some bl) 3 cl,c7,c8,c9,c10,.int .i64 (k:Int),c12,c13,c14,c15,c16,c17,c18,c19,c20,c21,c22,c23,c24,c25,c26,c27,c28,c29,c30,c31,c32,c33,c34,c35,c36,c37,c38,c39,c40,c41,c42,c43,c44,c45,c46,c47,c48,c49,c50,c51,c52,c53,c54,c55,c56,u57,u58,u59,u60,u61,u62,u63,u64,u65,u66,u67,u68,u69,u70,u71,u72,u73,u74,u75,u76,u77,u78,u79,u80,u81,u82,u83,u84,u85,u86,u87,u88,u89,u90,u91,u92,u93,u94,u95,u96,u97,u98,u99,u100,u101,u102,u103,u104,u105,u106,u107,u108,u109,u110,u111,u112,u113,u114,u115,u116,u117,.bool false,c119],[]⟩ w'))
  (hQ:∀ c (a:Act) (d:Tmp) (v:Value) w,Q (.panic c) (a.put (some d) v) w->Q (.panic c) a w) :
  (Ai Tryz.f3 21).wp prog Q ⟨#[c0,c1,c2,c3,.pointer (some Bg),c5,.slice (some bl) 3 cl,c7,c8,c9,c10,.int .i64 (k:Int),c12,c13,c14,c15,c16,c17,c18,c19,c20,c21,c22,c23,c24,c25,c26,c27,c28,c29,c30,c31,c32,c33,c34,c35,c36,c37,c38,c39,c40,c41,c42,c43,c44,c45,c46,c47,c48,c49,c50,c51,c52,c53,c54,c55,c56,c57,c58,c59,c60,c61,c62,c63,c64,c65,c66,c67,c68,c69,c70,c71,c72,c73,c74,c75,c76,c77,c78,c79,c80,c81,c82,c83,c84,c85,c86,c87,c88,c89,c90,c91,c92,c93,c94,c95,c96,c97,c98,c99,c100,c101,c102,c103,c104,c105,c106,c107,c108,c109,c110,c111,c112,c113,c114,c115,c116,c117,c118,c119],[]⟩ w:=by
 conv=>arg 2;whnf
 have hS:∀ w':World,Below w.heap.size w w'->(w'.cell? (Tac Bg 6)=some (.slice dp nd dc)/\w'.cell? bl=some (.slice (some b0) nd c00)/\w'.cell? (Tac bl 1)=some (.slice (some b1) nd c01)/\w'.cell? (Tac bl 2)=some (.slice (some b2) nd c02)/\w'.cell? (b0,k)=some ux/\w'.cell? (b1,k)=some uy/\w'.cell? (b2,k)=some uz):=fun w' e=>by
  obtain ⟨q0,q1,q2,q3,q4,q5,q6⟩:=hcs;exact ⟨(e.cell (p:=⟨Bg,6,none⟩) hl0).trans q0,(e.cell (p:=bl) hl1).trans q1,(e.cell (p:=⟨bl,1,none⟩) hl1).trans q2,(e.cell (p:=⟨bl,2,none⟩) hl1).trans q3,(e.cell (p:=⟨b0,k,none⟩) hl2).trans q4,(e.cell (p:=⟨b1,k,none⟩) hl3).trans q5,(e.cell (p:=⟨b2,k,none⟩) hl4).trans q6⟩
 have HS:=aa hS;clear hS;have H1:=aa h1;clear h1;have H2:=aa h2;clear h2;have T8:((nd:Int) != (nd:Int))=false:=by simp
 clear hcs;refine aL (fun w'=>(w'.cell? (Tac Bg 6)=some (.slice dp nd dc)/\w'.cell? bl=some (.slice (some b0) nd c00)/\w'.cell? (Tac bl 1)=some (.slice (some b1) nd c01)/\w'.cell? (Tac bl 2)=some (.slice (some b2) nd c02)/\w'.cell? (b0,k)=some ux/\w'.cell? (b1,k)=some uy/\w'.cell? (b2,k)=some uz)) 62 [] TcE (HS.o _ (bj _ _).drew) (fun hHeld=>?_);refine cH hQ 0 hHeld ?_;refine cH hQ 1 hHeld ?_;refine cH hQ 2 hHeld ?_;refine cH hQ 3 hHeld ?_;refine cH hQ 4 hHeld ?_;refine cH hQ 5 hHeld ?_;refine cH hQ 6 hHeld ?_;refine cH hQ 7 hHeld ?_;refine cH hQ 8 hHeld ?_;refine cH hQ 9 hHeld ?_;refine cH hQ 10 hHeld ?_;refine cH hQ 11 hHeld ?_;refine cH hQ 12 hHeld ?_;refine cH hQ 13 hHeld ?_;refine cH hQ 14 hHeld ?_;refine cH hQ 15 hHeld ?_;refine cH hQ 16 hHeld ?_;refine cH hQ 17 hHeld ?_;refine cH hQ 18 hHeld ?_;refine cH hQ 19 hHeld ?_;refine cH hQ 20 hHeld ?_;refine cH hQ 21 hHeld ?_;refine cH hQ 22 hHeld ?_;refine cH hQ 23 hHeld ?_;refine cH hQ 24 hHeld ?_;refine cH hQ 25 hHeld ?_;refine cH hQ 26 hHeld ?_;refine cH hQ 27 hHeld ?_;refine cH hQ 28 hHeld ?_;refine cH hQ 29 hHeld ?_;refine cH hQ 30 hHeld ?_;refine cH hQ 31 hHeld ?_;refine cH hQ 32 hHeld ?_;refine cH hQ 33 hHeld ?_;refine cH hQ 34 hHeld ?_;refine cH hQ 35 hHeld ?_;refine cH hQ 36 hHeld ?_;refine cH hQ 37 hHeld ?_;refine cH hQ 38 hHeld ?_;refine cH hQ 39 hHeld ?_;refine cH hQ 40 hHeld ?_;refine Gr (i:=41) rfl rfl TcE (fun K hK=>?_);go_simp;refine (H1.o _ (bj _ _).drew).mono ?_;rintro e w1 ⟨p1,c1',rfl,hb1⟩;have cU:=aa hb1;clear hb1;refine hK.o _ _ (HS.o _ cU.o) ?_;clear hK K hHeld;have hHeld:=HS.o _ cU.o;refine cH hQ 42 hHeld ?_;refine cH hQ 43 hHeld ?_;refine cH hQ 44 hHeld ?_;refine cH hQ 45 hHeld ?_;refine cH hQ 46 hHeld ?_;refine cH hQ 47 hHeld ?_;refine cH hQ 48 hHeld ?_;refine cH hQ 49 hHeld ?_;refine cH hQ 50 hHeld ?_;refine cH hQ 51 hHeld ?_;refine cH hQ 52 hHeld ?_;refine cH hQ 53 hHeld ?_;refine cH hQ 54 hHeld ?_;refine cH hQ 55 hHeld ?_;refine cH hQ 56 hHeld ?_;refine cH hQ 57 hHeld ?_;refine Gr (i:=58) rfl rfl TcE (fun K hK=>?_);go_simp;refine (H2.o _ cU.o).mono ?_;rintro e w2 ⟨p2,c2',rfl,hb2⟩;have cm:=aa hb2;clear hb2;refine hK.o _ _ (HS.o _ cm.o) ?_;clear hK K hHeld;have hHeld:=HS.o _ cm.o;refine cH hQ 59 hHeld ?_;refine cH hQ 60 hHeld ?_;refine cH hQ 61 hHeld ?_;refine aP TcE rfl ?_;simp only [cQ,cL,km];have hb2:=cm.o;clear hHeld cU cm H1 H2;unfold wpList;exact HK.o w2 _ _ _ _ _ _ _ _ _ _ _ _ _ _ _ _ _ _ _ _ _ _ _ _ _ _ _ _ _ _ _ _ _ _ _ _ _ _ _ _ _ _ _ _ _ _ _ _ _ _ _ _ _ _ _ _ _ _ _ _ _ hb2
def af7 (p:gy):ByteArray × Int × Int:=(p.disk,p.start,p.len)
def triples (vs:List ay):List (ByteArray × Int × Int):=(pieces vs).map af7
theorem Pi (a b:List ay):triples (a++b)=triples a++triples b:=by simp [triples,pieces,xt]
theorem af2 (v:ay):triples [v]=v.Gf.flatMap fun s=>(aK v.name s).map af7:=by
 simp only [triples,pieces,lB,List.flatMap_nil,eM,aW,List.map_flatMap]
theorem af0 (h:¬ fP s):(aK name s).map af7=[]:=by
 unfold aK;rw [bh h];rfl
theorem ag6 (h:fP s):(aK name s).map af7=s.Ga.map fun a=>(a.on,a.start,iB s.kind s.length s.Ga.length):=by
 unfold aK;rw [aw h,List.map_map];rfl
theorem af3 (h:s.kind≠2):(aK name s).map af7=iG s:=by
 unfold iG;by_cases c:s.kind=1\/s.kind=8
 ·rw [ag6 (c.elim (fun q=>.inl q) fun q=>.inr (.inr q)),aw c];have:iB s.kind s.length s.Ga.length=s.length:=by
   unfold iB;rw [bh fun q=>h q.1]
  rw [this]
 rw [af0 (fun q=>q.elim (fun q=>c (.inl q)) fun q=>q.elim h fun q=>c (.inr q)),bh c]
theorem ah4 (h:∀ v∈vs,∀ s∈v.Gf,¬ fP s):triples vs=[]:=by
 refine List.eq_nil_iff_forall_not_mem.2 fun t ht=>?_;obtain ⟨p,hp,rfl⟩:=List.mem_map.1 ht;obtain ⟨v,hv,hp⟩:=List.mem_flatMap.1 hp;obtain ⟨s,hs,hp⟩:=List.mem_flatMap.1 hp;exact h v hv s hs (gK hp).1
theorem lD.triples {c:Int}(h:lD id c ns ls ps vl):triples vl=ps:=by
 induction h with
 | nil=>rfl
 | snoc h ih =>
  rw [Pi,ih,af2];simp only [eD,lB,List.flatMap_nil,eM];rw [af3 TdD];simp [iG,dE]
theorem iO.off {c:Int}(h:iO id name k c j tl):∀ v∈tl,∀ s∈v.Gf,¬ fP s:=by
 induction h with
 | nil=>intro v hv;cases hv
 | snoc h hl ih =>
  intro v hv s hs;rcases List.mem_append.1 hv with q | q
  ·exact ih v q s hs
  obtain rfl:=List.mem_singleton.1 q;obtain rfl:=List.mem_singleton.1 hs;rintro (q | q | q) <;> simp at q
theorem ik.off (h:ik e n name kind names lengths x):¬ fP x:=by
 cases h <;> (rintro (q | q | q) <;> simp at q)
theorem iy.took (h:iy name g next g' next'):∃ ps vl,fZ g.Gb next ps next'/\g'.F9=g.F9++vl/\(triples vl).Sublist ps:=by
 cases h with
 | linF=>exact ⟨[],[],.nil _,TcD,List.Sublist.refl _⟩
 | @lin n s on next1 next' Gf ps hn h1 hm hl h2 hs =>
  refine ⟨_,_,h1.trans h2,rfl,?_⟩;obtain ⟨r,rfl,hr⟩:=hm.tail;rw [af2];simp only [xt,lB,List.flatMap_nil,eM];have e1:(aK name (dE n on s)).map af7=[(on,s,n)]:=by
   rw [af3 TdD];simp [iG,dE]
  rw [e1];refine List.Sublist.append (List.Sublist.refl _) (List.Sublist.trans ?_ hs);have e2:∀ l:List aB,(∀ x∈l,x.kind≠2)->l.flatMap (fun s=>(aK name s).map af7)=l.flatMap iG:=by
   intro l hl;induction l with
   | nil=>rfl
   | cons x l ih=>rw [lB,lB,af3 (hl x (cG ..)),ih fun y hy=>hl y (kn _ hy)]
  rw [e2 r fun x hx=>(hr x hx).1];simp
 | strF h=>exact ⟨_,[],h,TcD,by simp [triples,pieces]⟩
 | @str k n al next' hk hn hl ha h =>
  refine ⟨_,_,h,rfl,?_⟩;rw [af2];simp only [mf,lB,List.flatMap_nil,eM];rw [ag6 (.inr (.inl rfl))];have:iB (ic k n al).kind (ic k n al).length (ic k n al).Ga.length=n:=by
   show (if (2:Int)=2/\0<al.length then k*n / (al.length:Int) else k*n)=n;rw [aw ⟨rfl,TcC⟩,hl,Int.mul_ediv_cancel_left _ TcC]
  rw [this];exact List.Sublist.refl _
 | compF h=>exact ⟨[],[],.nil _,TcD,List.Sublist.refl _⟩
 | @comp kind n names lengths x ps vl tl ro tags k j next' AK hn hR hH hT ht hk hk5 Mf =>
  refine ⟨ps,vl++[⟨name,oX g.id (g.next+names.length+1),false,ro,tags,[x]⟩]++tl,hT,TcD,?_⟩;rw [Pi,Pi,hH.triples,ah4 Mf.off,ah4 (vs:=[_]) (fun v hv s hs=>by
   obtain rfl:=List.mem_singleton.1 hv;obtain rfl:=List.mem_singleton.1 hs;exact hR.off)]
  simp
theorem bZ.took {c:Nat}{g0:af}{n0:List Int}(h0:g0.F9=[])(h:bZ c g0 n0 i g next):g.Gb=g0.Gb/\∃ ps,fZ g0.Gb n0 ps next/\(triples g.F9).Sublist ps:=by
 induction h with
 | nil=>exact ⟨rfl,[],.nil _,by rw [h0];exact List.Sublist.refl _⟩
 | @step i g g' next next' h hs ih =>
  obtain ⟨e,ps,h1,h2⟩:=ih;obtain ⟨qs,vl,h3,h4,h5⟩:=hs.took;refine ⟨?_,ps++qs,h1.trans (e ▸ h3),?_⟩
  ·rw [<- e]
   cases hs <;> rfl
  rw [h4,Pi];exact h2.append h5
structure Apart (Gb:List az)(ps:List (ByteArray × Int × Int)):Prop where
 on:∀ q∈ps,∃ D∈Gb,D.name=q.1/\0<=q.2.1/\1<=q.2.2/\q.2.1+q.2.2<=D.Gc
 row:ps.Pairwise fun p q=>p.1=q.1->p.2.1+p.2.2<=q.2.1
theorem Apart.sub {qs:List (ByteArray × Int × Int)}(h:Apart Gb ps)(hs:qs.Sublist ps):Apart Gb qs:=⟨fun q hq=>h.on q (hs.subset hq),h.row.sublist hs⟩
theorem fZ.apart {a b:List Int}(h:fZ Gb a ps b)(hn:∀ (i j:Nat) (D E:az),Gb[i]?=some D->Gb[j]?=some E->D.name=E.name->i=j)(ha:∀ m∈a,0<=m) :
  Apart Gb ps/\(∀ m∈b,0<=m)/\∀ q∈ps,∀ (d:Nat) (D:az) (m:Int),Gb[d]?=some D->D.name=q.1->b[d]?=some m->q.2.1+q.2.2<=m:=by
 induction h with
 | nil=>exact ⟨⟨fun q hq=>by (cases hq),List.Pairwise.nil⟩,ha,fun q hq=>by (cases hq)⟩
 | @snoc next1 ps d D m s n h hd hm h1 h2 h3 ih =>
  obtain ⟨i1,i2,i3⟩:=ih;have hm0:=i2 m (ct hm);refine ⟨⟨fun q hq=>?_,?_⟩,fun x hx=>?_,fun q hq d' D' m' hd' e' hm'=>?_⟩
  ·rcases List.mem_append.1 hq with q1 | q1
   ·exact i1.on q q1
   obtain rfl:=List.mem_singleton.1 q1;exact ⟨D,ct hd,rfl,TcJ,h3,h2⟩
  ·rw [tP];refine ⟨i1.row,List.pairwise_singleton ..,fun p hp q hq e=>?_⟩;obtain rfl:=List.mem_singleton.1 hq;have:=i3 p hp d D m hd e.symm hm;dsimp only;omega
  ·rcases List.mem_or_eq_of_mem_set hx with q | rfl
   ·exact i2 x q
   omega
  by_cases c:d=d'
  ·subst c;rw [hd] at hd';injection hd' with hd';subst hd';rw [List.getElem?_set_self (List.getElem?_eq_some_iff.1 hm).1] at hm';injection hm' with hm';rcases List.mem_append.1 hq with q1 | q1
   ·have:=i3 q q1 d D m hd e' hm;omega
   obtain rfl:=List.mem_singleton.1 q1;dsimp only;omega
  rw [List.getElem?_set_ne c] at hm';rcases List.mem_append.1 hq with q1 | q1
  ·exact i3 q q1 d' D' m' hd' e' hm'
  obtain rfl:=List.mem_singleton.1 q1;exact absurd (hn d d' D D' hd hd' e'.symm) c
theorem sU.apart (h:sU g):Apart g.Gb (triples g.F9)/\∀ (i j:Nat) (D E:az),g.Gb[i]?=some D->g.Gb[j]?=some E->D.name=E.name->i=j:=by
 obtain ⟨c,g0,g1,next,hc,_,_,_,ah9,hn0,_,hv0,_,CD,hdk,ye,hg,_,_⟩:=h.ex;have pD:∀ (i j:Nat) (D E:az),g0.Gb[i]?=some D->g0.Gb[j]?=some E->D.name=E.name->i=j:=fun i j D E hi hj e=>by
  have h1:=(List.getElem?_eq_some_iff.1 hi).1;have h2:=(List.getElem?_eq_some_iff.1 hj).1;rw [(hdk i D hi).name,(hdk j E hj).name] at e;exact Fq TcC TcC e
 obtain ⟨ed,ps,h1,h2⟩:=ye.took hv0;have ha:=(h1.apart pD (fun m hm=>by rw [tM] at hm;omega)).1;have ed':g.Gb=g0.Gb:=by rw [hg];exact ed
 have ev:g.F9=g1.F9:=by rw [hg]
 rw [ed',ev];exact ⟨ha.sub h2,pD⟩
def LK (L:List ay)(nm:ByteArray)(l:Int):Prop:=∃ u∈L,u.name=nm/\eZ u=1/\C8 u=l
structure af6 (s:aB):Prop where
 hk:fP s\/s.kind=9\/s.kind=10
 ha:∀ a∈s.Ga,a.vol=false
 h0:¬ fP s->s.Ga=[]
 hl:s.log=es
inductive ah0 (ext:Int)(L:List ay)(v:ay)(s:aB):Prop
 | plain (h:af6 s):ah0 ext L v s
 | thin (hk:s.kind=6) (ha:s.Ga=[]) (hl:s.log=es) (hv:v.Gf=[s]) (j:Nat) (hd:s.device=j) (hn:v.name=(s.pool++tT)++digit j) (hp:∃ u∈L,u.name=s.pool/\eZ u=5):ah0 ext L v s
 | comp {kind n:Int} {names:List ByteArray} {lengths:List Int} (hk:kind=3\/kind=4\/kind=5\/kind=7) (hR:ik ext n v.name kind names lengths s) (hn:1<=n/\n<=3) (i:Nat) (hi:1<=i/\i<=4) (Ok:v.name=letter i)
   (lk:∀ (j:Nat) (nm:ByteArray) (l:Int),names[j]?=some nm->lengths[j]?=some l->LK L nm l):ah0 ext L v s
theorem LK.mono (hs:∀ u∈L,u∈L')(h:LK L nm l):LK L' nm l:=by
 obtain ⟨u,hu,r⟩:=h;exact ⟨u,hs u hu,r⟩
theorem ah0.mono (hs:∀ u∈L,u∈L')(h:ah0 ext L v s):ah0 ext L' v s:=by
 cases h with
 | plain h=>exact .plain h
 | thin hk ha hl hv j hd hn hp =>
  obtain ⟨u,hu,r⟩:=hp;exact .thin hk ha hl hv j hd hn ⟨u,hs u hu,r⟩
 | comp hk hR hn i hi Ok lk=>exact .comp hk hR hn i hi Ok fun j nm l a b=>(lk j nm l a b).mono hs
structure ak6 (ext:Int)(L:List ay)(v:ay):Prop where
 nm:nE v=true
 tg:eP v.tags=0
 sl:1<=v.Gf.length/\v.Gf.length<=64
 fm:qV ext v.Gf.length v.Gf 0=0
 sg:∀ s∈v.Gf,ah0 ext L v s
 hk:v.hidden=true->eZ v=1
def ag5 (L:List ay):List ByteArray:=(L.filter (·.hidden)).map (·.name)
structure Blk (ext id lo hi:Int)(i:Nat)(new:List ay):Prop where
 len:new.length<=8
 nd:(new.map (·.name)).Nodup
 hd:∀ v∈new,v.name.data.toList.head?=(letter i).data.toList.head?
 ids:∃ ms:List Int,new.map (·.id)=ms.map (oX id)/\ms.Pairwise (·<·)/\∀ m∈ms,lo<m/\m<=hi
 vgo:∀ v∈new,ak6 ext new v
 us:dA (aA new) false=ag5 new
def KG (c:ByteArray):List (Int × List ByteArray × ByteArray) :=
 [(3,aI c 2,es),(3,aI c 3,es),(3,aI c 2,c++qm),(3,aI c 3,c++qm),(4,aI c 3,es),(4,aI c 4,es),(5,[c++Ab,c++Aj],es),(7,[c++EO,c++Aj,c++Ab],es)]
def UV (q:Int × List ByteArray × ByteArray):List ByteArray:=q.2.1++if q.2.2.toList.isEmpty then [] else [q.2.2]
def WP (c:ByteArray)(j:Nat):ByteArray:=(c++tT)++digit j
def checkN (c:ByteArray)(q:Int × List ByteArray × ByteArray):Bool :=
 decide (((UV q++[c,WP c 2,WP c 1]).map fun b=>b.data.toList).Nodup)&&(UV q++[c,WP c 2,WP c 1]).all (fun b=>b.data.toList.head? == c.data.toList.head?)&&(UV q).all zH&&[c,WP c 2,WP c 1].all jo &&
  jS ⟨c,0,false,false,[],[]⟩ ⟨0,0,q.1,gB q.2.1,0,[],q.2.2,es,0,0,0⟩
theorem am8:(KG (letter 1)).all (checkN (letter 1))=true:=by kernel_rfl
theorem an2:(KG (letter 2)).all (checkN (letter 2))=true:=by kernel_rfl
theorem am7:(KG (letter 3)).all (checkN (letter 3))=true:=by kernel_rfl
theorem an4:(KG (letter 4)).all (checkN (letter 4))=true:=by kernel_rfl
theorem aj9 (hi:1<=i/\i<=4):∀ q∈KG (letter i),checkN (letter i) q=true:=by
 rcases (show i=1\/i=2\/i=3\/i=4 by omega) with rfl | rfl | rfl | rfl
 ·exact List.all_eq_true.1 am8
 ·exact List.all_eq_true.1 an2
 ·exact List.all_eq_true.1 am7
 exact List.all_eq_true.1 an4
structure an0 (c:ByteArray)(q:Int × List ByteArray × ByteArray):Prop where
 nd:(UV q++[c,WP c 2,WP c 1]).Nodup
 hd:∀ b∈UV q++[c,WP c 2,WP c 1],b.data.toList.head?=c.data.toList.head?
 hid:∀ b∈UV q,zH b=true
 vis:∀ b∈[c,WP c 2,WP c 1],jo b=true
 nmd:jS ⟨c,0,false,false,[],[]⟩ ⟨0,0,q.1,gB q.2.1,0,[],q.2.2,es,0,0,0⟩=true
theorem aj2 (hi:1<=i/\i<=4){q:Int × List ByteArray × ByteArray}(hq:q∈KG (letter i)):an0 (letter i) q:=by
 have h:=aj9 hi q hq;unfold checkN at h;simp only [eh] at h;obtain ⟨⟨⟨⟨h1,h2⟩,h3⟩,h4⟩,h5⟩:=h;refine ⟨?_,fun b hb=>by simpa using List.all_eq_true.1 h2 b hb,List.all_eq_true.1 h3,List.all_eq_true.1 h4,h5⟩;have:=of_decide_eq_true h1;exact List.Pairwise.of_map _ (fun a b hab e=>hab Tdm) this
theorem Tdg {p:Prop}(h:p:=by simp [KG]):p:=h
theorem TdB {p:Prop}(h:p:=by simp [UV,e0]):p:=h
theorem ik.shape (h:ik e n c kind names lengths x) :
  ∃ q∈KG c,q.1=kind/\x.kind=kind/\x.Ga=gB q.2.1/\x.log=q.2.2/\names=UV q/\x.pool=es/\names.length=lengths.length/\names.length<=4:=by
 have e0:es.toList.isEmpty=true:=by rw [A6];rfl
 cases h with
 | mirror k hk ch hc st hst =>
  rcases (show k=2\/k=3 by omega) with rfl | rfl
  ·exact ⟨(3,aI c 2,es),Tdg,rfl,rfl,rfl,rfl,TdB,rfl,TcT,TcT⟩
  exact ⟨(3,aI c 3,es),Tdg,rfl,rfl,rfl,rfl,TdB,rfl,TcT,TcT⟩
 | mirrorLog k hk ch hc st hst =>
  have e1:(c++qm).toList.isEmpty=false:=lS (by rw [CA];have:qm.size=4:=rfl;omega);rcases (show k=2\/k=3 by omega) with rfl | rfl
  ·exact ⟨(3,aI c 2,c++qm),Tdg,rfl,rfl,rfl,rfl,by simp [UV,e1],rfl,TcT,TcT⟩
  exact ⟨(3,aI c 3,c++qm),Tdg,rfl,rfl,rfl,rfl,by simp [UV,e1],rfl,TcT,TcT⟩
 | parity k hk ch hc =>
  rcases (show k=3\/k=4 by omega) with rfl | rfl
  ·exact ⟨(4,aI c 3,es),Tdg,rfl,rfl,rfl,rfl,TdB,rfl,TcT,TcT⟩
  exact ⟨(4,aI c 4,es),Tdg,rfl,rfl,rfl,rfl,TdB,rfl,TcT,TcT⟩
 | pool l ch hl hc=>exact ⟨(5,[c++Ab,c++Aj],es),Tdg,rfl,rfl,rfl,rfl,TdB,rfl,rfl,TcD⟩
 | cache l m ch hl hm hc=>exact ⟨(7,[c++EO,c++Aj,c++Ab],es),Tdg,rfl,rfl,rfl,rfl,TdB,rfl,rfl,TcD⟩
theorem ik.len (h:ik e n c kind names lengths x)(he:e∈([1,2,4,8,16]:List Int))(hn:1<=n/\n<=3):∀ l∈lengths,1<=l/\l<=1000:=by
 simp only [dr,cY,dg] at he;intro l hl;cases h with
 | mirror k hk ch hc st hst=>rw [tM] at hl;omega
 | mirrorLog k hk ch hc st hst =>
  rcases List.mem_append.1 hl with q | q
  ·rw [tM] at q;omega
  obtain rfl:=List.mem_singleton.1 q;rcases he with rfl | rfl | rfl | rfl | rfl <;> omega
 | parity k hk ch hc =>
  rw [tM] at hl;obtain ⟨_,rfl⟩:=hl;rcases he with rfl | rfl | rfl | rfl | rfl <;> omega
 | pool l1 ch hl1 hc=>simp only [dr,cY,dg] at hl;omega
 | cache l1 m ch hl1 hm hc=>simp only [dr,cY,dg] at hl;omega
theorem ah7 {l:List ByteArray}(h:List.Sublist l iQ):eP l=0:=by
 unfold iQ at h;rcases h with _ | ⟨_,h⟩ | ⟨_,h⟩ <;> rcases h with _ | ⟨_,h⟩ | ⟨_,h⟩ <;> rcases h with _ | ⟨_,h⟩ | ⟨_,h⟩ <;> rcases h with _ | ⟨_,h⟩ | ⟨_,h⟩ <;> cases h <;> kernel_rfl
theorem Tdk {p:Prop}(h:p:=by cases hv):p:=h
theorem lD.lk {c:Int}(h:lD id c ns ls ps vl) :
  vl.map (·.name)=ns/\ns.length=ls.length/\(∃ ms:List Int,vl.map (·.id)=ms.map (oX id)/\ms.Pairwise (·<·)/\∀ m∈ms,c<m/\m<=c+ns.length) /\
  (∀ v∈vl,∃ nm l on s,nm∈ns/\l∈ls/\∃ i,v=eD nm i true l on s)/\∀ (j:Nat) (nm:ByteArray) (l:Int),ns[j]?=some nm->ls[j]?=some l->∃ i on s,eD nm i true l on s∈vl:=by
 induction h with
 | nil=>exact ⟨rfl,rfl,⟨[],rfl,List.Pairwise.nil,fun m hm=>by cases hm⟩,fun v hv=>Tdk,fun j nm l hj=>by simp at hj⟩
 | @snoc ns ls ps vl nm on l s h ih =>
  obtain ⟨e1,e2,⟨ms,e3,e4,e5⟩,e6,e7⟩:=ih;refine ⟨by simp [e1,eD],by simp [e2],⟨ms++[c+ns.length+1],by simp [e3,eD],?_,fun m hm=>?_⟩,fun v hv=>?_,fun j nm' l' h1 h2=>?_⟩
  ·exact List.pairwise_append.2 ⟨e4,List.pairwise_singleton ..,fun a ha b hb=>by
    obtain rfl:=List.mem_singleton.1 hb;have:=e5 a ha;omega⟩
  ·rw [cD,A4];rcases List.mem_append.1 hm with q | q
   ·have:=e5 m q;omega
   obtain rfl:=List.mem_singleton.1 q;omega
  ·rcases List.mem_append.1 hv with q | q
   ·obtain ⟨nm',l',on',s',a1,a2,i,a3⟩:=e6 v q;exact ⟨nm',l',on',s',ju _ a1,ju _ a2,i,a3⟩
   obtain rfl:=List.mem_singleton.1 q;exact ⟨nm,l,on,s,TcD,TcD,_,rfl⟩
  by_cases c1:j<ns.length
  ·rw [Fo c1] at h1;rw [Fo TcC] at h2;obtain ⟨i,on',s',a⟩:=e7 j nm' l' h1 h2;exact ⟨i,on',s',ju _ a⟩
  have hj:=(List.getElem?_eq_some_iff.1 h1).1;rw [cD,A4] at hj;obtain rfl:j=ns.length:=by omega
  rw [Cp (bk _),Nat.sub_self] at h1;rw [e2,Cp (bk _),Nat.sub_self] at h2;obtain rfl:nm=nm':=by simpa using h1
  obtain rfl:l=l':=by simpa using h2
  exact ⟨_,_,_,P9 _ (List.mem_singleton.2 rfl)⟩
theorem am0 {i:Int}{hd:Bool}{s:Int}(h:1<=l/\l<=1000):C8 (eD nm i hd l on s)=l:=by
 simp only [C8,eD,dE,cF,cq,fF];omega
theorem iO.ex {lo:Int}(h:iO id c k lo j tl)(hk:k<=2) :
  (tl.map (·.name)).Sublist [WP c 2,WP c 1]/\(∃ ms:List Int,tl.map (·.id)=ms.map (oX id)/\ms.Pairwise (·<·)/\∀ m∈ms,lo<=m/\m<lo+tl.length)/\tl.length<=2 /\
  ∀ v∈tl,∃ (i:Int) (len:Int) (j:Nat),1<=len/\len<=4/\1<=j/\j<=2/\v=jY c i len j:=by
 have hlen:=h.len;have key:∀ v∈tl,∃ (i:Int) (len:Int) (j:Nat),1<=len/\len<=4/\1<=j/\j<=2/\v=jY c i len j:=by
  clear hlen;induction h with
  | nil=>intro v hv;cases hv
  | snoc h hl ih =>
   intro v hv;rcases List.mem_append.1 hv with q | q
   ·exact ih v q
   obtain rfl:=List.mem_singleton.1 q;have:=h.len;exact ⟨_,_,_,hl.1,hl.2,TcC,TcC,rfl⟩
 have ids:∃ ms:List Int,tl.map (·.id)=ms.map (oX id)/\ms.Pairwise (·<·)/\∀ m∈ms,lo<=m/\m<lo+tl.length:=by
  clear hlen key;induction h with
  | nil=>exact ⟨[],rfl,List.Pairwise.nil,fun m hm=>by cases hm⟩
  | @snoc j vl len h hl ih =>
   obtain ⟨ms,e3,e4,e5⟩:=ih;refine ⟨ms++[lo+vl.length],by simp [e3,jY],List.pairwise_append.2 ⟨e4,List.pairwise_singleton ..,fun a ha b hb=>?_⟩,fun m hm=>?_⟩
   ·obtain rfl:=List.mem_singleton.1 hb;have:=e5 a ha;omega
   rw [cD,A4];rcases List.mem_append.1 hm with q | q
   ·have:=e5 m q;omega
   obtain rfl:=List.mem_singleton.1 q;omega
 refine ⟨?_,ids,TcC,key⟩;clear ids key;cases h with
 | nil=>exact List.nil_sublist _
 | snoc h1 _=>cases h1 with
  | nil =>
   rcases (show j=0\/j=1 by omega) with rfl | rfl
   ·exact List.Sublist.cons _ (List.Sublist.refl _)
   exact List.Sublist.cons₂ _ (List.nil_sublist _)
  | snoc h2 _=>cases h2 with
   | nil =>
    obtain rfl:j=0:=by omega
    exact List.Sublist.refl _
   | snoc h3 _ =>
    have:=h3.len;exfalso
    omega
theorem ak6.mono (hs:∀ u∈L,u∈L')(h:ak6 ext L v):ak6 ext L' v:=⟨h.nm,h.tg,h.sl,h.fm,fun s k=>(h.sg s k).mono hs,h.hk⟩
theorem ai7 (x:aB)(l:List aB):bg (x :: l)=x.length+bg l:=by simp [bg]
theorem af8 (ext:Int)(m:Nat)(x:aB):∀ (l:List aB) (st:Int),qV ext m l st=0->bJ ext x (st+bg l)=true->(oO x.kind).several=true->qV ext m (l++[x]) st=0
 | [],st,_,hf,hs=>by
  have e:st+bg []=st:=by simp [bg]
  rw [e] at hf;simp [qV,hf,hs]
 | y :: l,st,h,hf,hs=>by
  rw [List.cons_append];unfold qV at h ⊢;split at h
  ·cases h
  rename_i c1;rw [bh c1];split at h
  ·cases h
  rename_i c2;rw [bh c2];refine af8 ext m x l _ h ?_ hs;rw [ai7,<- Int.add_assoc] at hf;exact hf
theorem NE:es.toList.isEmpty=true:=by rw [A6];rfl
theorem ah6 (ext st n:Int)(on:ByteArray)(s:Int)(h:1<=n/\n<=1000):bJ ext (aV st n 1 [⟨false,on,s⟩] 0) st=true:=by
 have h1:decide (1<=n)=true:=eA h.1;have h2:decide (n<=32768)=true:=eA TcC;simp [bJ,shapeOf,aV,bT,fq,dP,bE,NE,h1,h2];exact ⟨h1,h2⟩
theorem ak1 (ext st n kind:Int)(h:1<=n/\n<=1000)(hk:kind=9\/kind=10):bJ ext (aV st n kind [] 0) st=true:=by
 have h1:decide (1<=n)=true:=eA h.1;have h2:decide (n<=32768)=true:=eA TcC;rcases hk with rfl | rfl <;> simp [bJ,shapeOf,aV,fq,dP,bE,NE,h1,h2] <;> exact ⟨h1,h2⟩
theorem ak7 (ext st n dn:Int)(on on':ByteArray)(s s':Int)(h:1<=n/\n<=1000)(hd:0<=dn/\dn<=n):bJ ext (aV st n 8 [⟨false,on,s⟩,⟨false,on',s'⟩] dn) st=true:=by
 have h1:decide (1<=n)=true:=eA h.1;have h2:decide (n<=32768)=true:=eA TcC;have h3:decide (0<=dn)=true:=eA hd.1;have h4:decide (dn<=n)=true:=eA hd.2;simp [bJ,shapeOf,aV,bT,fq,dP,bE,NE,h1,h2,h3,h4];exact ⟨⟨h1,h2⟩,h3,h4⟩
theorem fB.form {s:Int}(ext:Int)(m:Nat){l:List aB}(h:fB [dE n on s] l)(hn:1<=n/\n<=1000):qV ext m l 0=0:=by
 induction h with
 | nil =>
  have h1:=ah6 ext 0 n on s hn;have h2:(dE n on s)=aV 0 n 1 [⟨false,on,s⟩] 0:=rfl;have h3:(oO 1).several=true:=rfl;rw [h2];simp only [qV,h1];simp [aV,h3]
 | @void l' n' kind h hn' hk ih =>
  refine af8 ext m _ _ _ ih ?_ (by rcases hk with rfl | rfl <;> rfl);rw [Int.zero_add];exact ak1 _ _ _ _ TcC hk
 | lin h hn' ih =>
  refine af8 ext m _ _ _ ih ?_ rfl;rw [Int.zero_add];exact ah6 _ _ _ _ _ TcC
 | move h hn' hd ih =>
  refine af8 ext m _ _ _ ih ?_ rfl;rw [Int.zero_add];exact ak7 _ _ _ _ _ _ _ _ TcC hd
theorem ag2 (st n s:Int)(on:ByteArray):af6 (aV st n 1 [⟨false,on,s⟩] 0):=⟨.inl (.inl rfl),fun a ha=>by
  obtain rfl:a=⟨false,on,s⟩:=by simpa [aV] using ha
  rfl,fun q=>absurd (.inl rfl) q,rfl⟩
theorem fB.plain {s:Int}{l:List aB}(h:fB [dE n on s] l):∀ x∈l,af6 x:=by
 induction h with
 | nil =>
  intro x hx;obtain rfl:=List.mem_singleton.1 hx;exact ag2 0 n s on
 | void h hn' hk ih =>
  intro x hx;rcases List.mem_append.1 hx with q | q
  ·exact ih x q
  obtain rfl:=List.mem_singleton.1 q;exact ⟨.inr hk,fun a ha=>by simp [aV] at ha,fun _=>rfl,rfl⟩
 | lin h hn' ih =>
  intro x hx;rcases List.mem_append.1 hx with q | q
  ·exact ih x q
  obtain rfl:=List.mem_singleton.1 q;exact ag2 _ _ _ _
 | move h hn' hd ih =>
  intro x hx;rcases List.mem_append.1 hx with q | q
  ·exact ih x q
  obtain rfl:=List.mem_singleton.1 q;refine ⟨.inl (.inr (.inr rfl)),fun a ha=>?_,fun q=>absurd (.inr (.inr rfl)) q,rfl⟩;simp only [aV,dr,cY,dg] at ha;rcases ha with rfl | rfl <;> rfl
theorem al2 (ext k n:Int)(al:List aR)(hk:2<=k/\k<=3)(hn:1<=n/\n<=2)(hl:(al.length:Int)=k)(ha:∀ a∈al,a.vol=false):bJ ext (ic k n al) 0=true:=by
 have h0:al.all (bT ⟨2,6,false,true,1,false,false,false,false,false⟩)=true:=List.all_eq_true.2 fun a h=>by simp [bT,ha a h]
 have hm:(k*n) % (al.length:Int)=0:=by rw [hl];exact Int.mul_emod_right k n
 have hp:1<=k*n/\k*n<=6:=by
  rcases (show k=2\/k=3 by omega) with rfl | rfl <;> omega
 have h1:decide (1<=k*n)=true:=eA hp.1;have h2:decide (k*n<=32768)=true:=eA TcC;have h3:decide (2<=(al.length:Int))=true:=eA TcC;have h4:decide ((al.length:Int)<=6)=true:=eA TcC;simp only [bJ,shapeOf,ic];simp [h0,h1,h2,h3,h4,hm,fq,dP,bE,NE];exact ⟨⟨⟨h1,h2⟩,h3⟩,h4⟩
theorem aj4 (x:eX)(hx:x.F9=true)(l:List ByteArray):(gB l).all (bT x)=true:=List.all_eq_true.2 fun a h=>by
 obtain ⟨n,_,rfl⟩:=List.mem_map.1 h;simp [bT,hx]
theorem af5 (l:List ByteArray):(gB l).length=l.length:=by simp [gB]
theorem IR (c:ByteArray)(k:Nat):(aI c k).length=k:=by simp [aI]
theorem ik.form (h:ik e n c kind names lengths x)(hn:1<=n/\n<=3)(he:1<=e):bJ e x 0=true:=by
 have h1:decide (1<=n)=true:=eA hn.1;have h2:decide (n<=32768)=true:=eA TcC;cases h with
 | mirror k hk ch hc st hst =>
  have e1:∀ x:eX,x.F9=true->(gB (aI c k)).all (bT x)=true:=fun x hx=>aj4 x hx _;have a1:decide ((2:Int)<=(k:Int))=true:=eA TcC;have a2:decide ((k:Int)<=6)=true:=eA TcC;have a3:decide (1<=ch)=true:=eA TcC;have a4:decide (ch<=1024)=true:=eA TcC;rcases hst with rfl | ⟨i,hi1,hi2,rfl⟩
  ·simp [bJ,shapeOf,e1,af5,IR,a1,a2,a3,a4,h1,h2,fq,dP,bE,NE]
  have b1:decide (0<=i)=true:=eA hi1;have b2:decide (i<(k:Int))=true:=eA hi2;simp [bJ,shapeOf,e1,af5,IR,a1,a2,a3,a4,h1,h2,fq,dP,bR,bE,NE,b1,b2,List.range_succ]
 | mirrorLog k hk ch hc st hst =>
  have e1:∀ x:eX,x.F9=true->(gB (aI c k)).all (bT x)=true:=fun x hx=>aj4 x hx _;have e2:(c++qm).toList.isEmpty=false:=lS (by rw [CA];have:qm.size=4:=rfl;omega);have a1:decide ((2:Int)<=(k:Int))=true:=eA TcC;have a2:decide ((k:Int)<=6)=true:=eA TcC;have a3:decide (1<=ch)=true:=eA TcC;have a4:decide (ch<=1024)=true:=eA TcC;rcases hst with rfl | ⟨i,hi1,hi2,rfl⟩
  ·simp [bJ,shapeOf,e1,e2,af5,IR,a1,a2,a3,a4,h1,h2,fq,dP,bE,NE]
  have b1:decide (0<=i)=true:=eA hi1;have b2:decide (i<(k:Int)+1)=true:=eA TcC;simp [bJ,shapeOf,e1,e2,af5,IR,a1,a2,a3,a4,h1,h2,fq,dP,bR,bE,NE,b1,b2,List.range_succ]
 | parity k hk ch hc =>
  have e1:∀ x:eX,x.F9=true->(gB (aI c k)).all (bT x)=true:=fun x hx=>aj4 x hx _
  have hp:1<=n*((k:Int) - 1)/\n*((k:Int) - 1)<=32768:=by
   rcases (show k=3\/k=4 by omega) with rfl | rfl <;> omega
  have a1:decide ((3:Int)<=(k:Int))=true:=eA TcC;have a2:decide ((k:Int)<=6)=true:=eA TcC;have b1:decide (1<=n*((k:Int) - 1))=true:=eA hp.1;have b2:decide (n*((k:Int) - 1)<=32768)=true:=eA hp.2;have hm:(n*((k:Int) - 1)) % ((k:Int) - 1)=0:=Int.mul_emod_left n _;have c1:decide (1<=ch)=true:=eA TcC;have c2:e % ch=0:=by
   rcases hc with rfl | rfl
   ·exact Int.emod_one _
   exact Int.emod_self
  simp [bJ,shapeOf,e1,af5,IR,a1,a2,b1,b2,c1,c2,hm,fq,dP,bE,NE]
 | pool l ch hl hc =>
  have a3:decide (1<=ch)=true:=eA TcC;have a4:decide (ch<=64)=true:=eA TcC;simp [bJ,shapeOf,gB,bT,a3,a4,h1,h2,fq,dP,bE,NE]
 | cache l m ch hl hm hc =>
  have a3:decide (1<=ch)=true:=eA TcC;have a4:decide (ch<=64)=true:=eA TcC;have a5:decide (1<=m)=true:=eA TcC;have a6:decide (m<=2)=true:=eA TcC;simp [bJ,shapeOf,gB,bT,a3,a4,a5,a6,h1,h2,fq,dP,bE,NE]
theorem ak9 (e st len:Int)(c:ByteArray)(j:Nat)(h:1<=len/\len<=4)(hj:1<=j/\j<=2):bJ e ⟨0,len,6,[],0,[],es,c,j,0,0⟩ 0=true:=by
 have h1:decide (1<=len)=true:=eA h.1;have h2:decide (len<=32768)=true:=eA TcC;have h3:decide (1<=(j:Int))=true:=eA TcC;have h4:decide ((j:Int)<=65535)=true:=eA TcC;simp [bJ,shapeOf,fq,dP,bE,NE,h1,h2,h3,h4]
theorem ag3 (ext:Int)(x:aB)(h:bJ ext x 0=true):qV ext 1 [x] 0=0:=by simp [qV,h]
theorem am6 (c:ByteArray):(3,aI c 2,es)∈KG c:=by simp [KG]
theorem ag8 (hi:1<=i/\i<=4):jo (letter i)=true:=(aj2 hi (am6 _)).vis _ (cG ..)
theorem ag9:eP []=0:=by kernel_rfl
theorem ag7 (a b:List ay):aA (a++b)=aA a++aA b:=by simp [aA]
theorem ah3 (a b:List (ay × aB))(p:Bool):dA (a++b) p=dA a p++dA b p:=by simp [dA]
theorem ah8 (a b:List ay):ag5 (a++b)=ag5 a++ag5 b:=by simp [ag5]
theorem ah5 {l:List (ay × aB)}{p:Bool}(h:∀ q∈l,dD q.2 p=[]):dA l p=[]:=List.eq_nil_iff_forall_not_mem.2 fun nm hn=>by
 obtain ⟨q,hq,h1⟩:=List.mem_flatMap.1 hn;rw [h q hq] at h1;cases h1
theorem WF {p:ay × aB}(h:p∈aA L):p.1∈L/\p.2∈p.1.Gf:=by
 obtain ⟨v,hv,h1⟩:=List.mem_flatMap.1 h;obtain ⟨s,hs,rfl⟩:=List.mem_map.1 h1;exact ⟨hv,hs⟩
theorem af6.used (h:af6 s)(p:Bool):dD s p=[]:=by
 unfold dD;have e1:s.Ga.filter (·.vol)=[]:=List.filter_eq_nil_iff.2 fun a q=>by simp [h.ha a q]
 have e2:(s.kind == 6)=false:=by
  rcases h.hk with (q | q | q) | q | q <;> rw [q] <;> rfl
 rw [e1,h.hl,NE,e2,Bool.and_false];rfl
theorem af9 (h:∀ v∈vs,∀ s∈v.Gf,af6 s)(p:Bool):dA (aA vs) p=[]:=ah5 fun q hq=>by
 obtain ⟨q1,q2⟩:=WF hq;exact (h _ q1 _ q2).used p
theorem ah2 (h:∀ v∈vs,v.hidden=false):ag5 vs=[]:=by
 unfold ag5;rw [List.filter_eq_nil_iff.2 fun a q=>by simp [h a q]];rfl
theorem al0 (h:∀ v∈vs,v.hidden=true):ag5 vs=vs.map (·.name):=by
 unfold ag5;rw [List.filter_eq_self.2 fun a q=>h a q]
theorem ah1 (h:ik e n c kind names lengths x)(hk:kind=3\/kind=4\/kind=5\/kind=7)(p:Bool):dD x p=names:=by
 obtain ⟨q,_,h1,h2,h3,h4,h5,_⟩:=h.shape;have e6:(x.kind == 6)=false:=by rw [h2];simp;omega
 have e1:∀ l:List ByteArray,((gB l).filter (·.vol)).map (·.on)=l:=fun l=>by
  induction l with
  | nil=>rfl
  | cons a l ih=>simpa [gB] using ih
 unfold dD;rw [h3,e1,h4,e6,Bool.and_false,h5];simp [UV]
theorem Teo {p:Prop}(h:p:=by show g.next<=g.next+1;omega):p:=h
theorem iy.blk (hi:1<=i/\i<=4)(h:iy (letter i) g next g' next')(he:g.Gd∈([1,2,4,8,16]:List Int)) :
  ∃ new,g'.F9=g.F9++new/\Blk g.Gd g.id g.next g'.next i new/\g.next<=g'.next:=by
 have he1:1<=g.Gd:=by
  simp only [dr,cY,dg] at he;omega
 have an8:∀ hi':Int,Blk g.Gd g.id g.next hi' i []:=fun _=>⟨TcD,TcD,fun v hv=>Tdk,⟨[],rfl,List.Pairwise.nil,fun m hm=>by cases hm⟩,fun v hv=>Tdk,rfl⟩
 cases h with
 | linF=>exact ⟨[],TcD,an8 _,Teo⟩
 | strF _=>exact ⟨[],TcD,an8 _,Int.le_refl _⟩
 | @compF j _=>exact ⟨[],TcD,an8 _,by show g.next<=g.next+j;omega⟩
 | @lin n s on next1 next' Gf ps hn h1 hm hl h2 hs =>
  refine ⟨_,rfl,⟨TcD,TcD,fun v hv=>?_,⟨[g.next+1],rfl,List.pairwise_singleton ..,fun m hm=>?_⟩,fun v hv=>?_,?_⟩,Teo⟩
  ·obtain rfl:=List.mem_singleton.1 hv;rfl
  ·obtain rfl:=List.mem_singleton.1 hm;show g.next<g.next+1/\g.next+1<=g.next+1;omega
  ·obtain rfl:=List.mem_singleton.1 hv;exact ⟨ag8 hi,ag9,⟨hm.len,TcJ⟩,hm.form _ _ TcC,fun x hx=>.plain (hm.plain x hx),fun q=>by cases q⟩
  rw [af9 fun v hv s hs=>?_,ah2 fun v hv=>?_]
  ·obtain rfl:=List.mem_singleton.1 hv;rfl
  obtain rfl:=List.mem_singleton.1 hv;exact hm.plain s hs
 | @str k n al next' hk hn hl ha h =>
  have hp:af6 (ic k n al):=⟨.inl (.inr (.inl rfl)),ha,fun q=>absurd (.inr (.inl rfl)) q,rfl⟩;refine ⟨_,rfl,⟨TcD,TcD,fun v hv=>?_,⟨[g.next+1],rfl,List.pairwise_singleton ..,fun m hm=>?_⟩,fun v hv=>?_,?_⟩,Teo⟩
  ·obtain rfl:=List.mem_singleton.1 hv;rfl
  ·obtain rfl:=List.mem_singleton.1 hm;show g.next<g.next+1/\g.next+1<=g.next+1;omega
  ·obtain rfl:=List.mem_singleton.1 hv;refine ⟨ag8 hi,ag9,⟨by simp [mf],by simp [mf]⟩,ag3 _ _ (al2 _ _ _ _ hk hn hl ha),fun x hx=>?_,fun q=>by cases q⟩;obtain rfl:=List.mem_singleton.1 hx;exact .plain hp
  rw [af9 fun v hv s hs=>?_,ah2 fun v hv=>?_]
  ·obtain rfl:=List.mem_singleton.1 hv;rfl
  obtain rfl:=List.mem_singleton.1 hv;obtain rfl:=List.mem_singleton.1 hs;exact hp
 | @comp kind n names lengths x ps vl tl ro tags k j next' AK hn hR hH hT ht hk hk5 Mf =>
  obtain ⟨q,hq,e1,e2,e3,e4,e5,e6,e7,e8⟩:=hR.shape;have G:=aj2 hi hq;obtain ⟨v1,_,⟨ms,v2,v3,v4⟩,v5,v6⟩:=hH.lk;obtain ⟨t1,⟨ns,t2,t3,t4⟩,t5,t6⟩:=Mf.ex hk;have hlen:=hR.len he hn;have mb:vl.length=names.length:=by rw [<- v1,fW]
  have u9:((vl++[⟨letter i,oX g.id (g.next+names.length+1),false,ro,tags,[x]⟩]++tl:List ay).map (·.name)).Sublist (UV q++[letter i,WP (letter i) 2,WP (letter i) 1]):=by
   rw [gl,gl,v1,e5,cV];exact (List.Sublist.refl _).append (List.Sublist.cons₂ _ t1)
  have NM:∀ v∈vl,v∈(vl++[⟨letter i,oX g.id (g.next+names.length+1),false,ro,tags,[x]⟩]++tl:List ay):=fun v hv=>ju _ (ju _ hv);have ao3:(⟨letter i,oX g.id (g.next+names.length+1),false,ro,tags,[x]⟩:ay)∈(vl++[⟨letter i,oX g.id (g.next+names.length+1),false,ro,tags,[x]⟩]++tl:List ay):=ju _ (P9 _ (List.mem_singleton.2 rfl));refine ⟨vl++[⟨letter i,oX g.id (g.next+names.length+1),false,ro,tags,[x]⟩]++tl,TcD,⟨?_,u9.nodup G.nd,fun v hv=>?_,⟨ms++[g.next+names.length+1]++ns,by simp [v2,t2],?_,?_⟩,fun v hv=>?_,?_⟩,?_⟩
  ·simp only [cD,A4];omega
  ·exact G.hd _ (u9.subset (List.mem_map.2 ⟨v,hv,rfl⟩))
  ·refine List.pairwise_append.2 ⟨List.pairwise_append.2 ⟨v3,List.pairwise_singleton ..,fun a ha b hb=>?_⟩,t3,fun a ha b hb=>?_⟩
   ·obtain rfl:=List.mem_singleton.1 hb;have:=v4 a ha;omega
   have hb':=t4 b hb;rcases List.mem_append.1 ha with z | z
   ·have:=v4 a z;omega
   obtain rfl:=List.mem_singleton.1 z;omega
  ·intro m hm;show g.next<m/\m<=g.next+names.length+1+tl.length;rcases List.mem_append.1 hm with z | z
   ·rcases List.mem_append.1 z with z | z
    ·have:=v4 m z;omega
    obtain rfl:=List.mem_singleton.1 z;omega
   have:=t4 m z;omega
  ·rcases List.mem_append.1 hv with z | z
   ·rcases List.mem_append.1 z with z | z
    ·obtain ⟨nm,l,on,s,h1,h2,i',rfl⟩:=v5 v z;have hl:=hlen l h2;exact ⟨G.hid nm (e5 ▸ h1),ag9,⟨by simp [eD],by simp [eD]⟩,ag3 _ _ (ah6 _ 0 l on s hl),fun y hy=>by
      obtain rfl:=List.mem_singleton.1 hy;exact .plain (ag2 0 l s on),fun _=>rfl⟩
    obtain rfl:=List.mem_singleton.1 z;refine ⟨ag8 hi,ah7 ht,⟨TcD,TcD⟩,ag3 _ _ (hR.form hn he1),fun y hy=>?_,fun q=>by cases q⟩;obtain rfl:=List.mem_singleton.1 hy;refine .comp AK hR hn i hi rfl fun j nm l a b=>?_;obtain ⟨i',on,s,hm⟩:=v6 j nm l a b;exact ⟨_,NM _ hm,rfl,rfl,am0 (hlen l (ct b))⟩
   obtain ⟨i',len,j',a1,a2,a3,a4,rfl⟩:=t6 v z;have hk5':kind=5:=Classical.byContradiction fun c=>by
    obtain ⟨c1,c2⟩:=hk5 c;have:=Mf.len;rw [List.length_eq_zero_iff.1 (show tl.length=0 by omega)] at z;cases z
   refine ⟨?_,ag9,⟨by simp [jY],by simp [jY]⟩,ag3 _ _ (ak9 _ 0 _ _ _ ⟨a1,a2⟩ ⟨a3,a4⟩),fun y hy=>?_,fun q=>by cases q⟩
   ·have eE:=G.vis;show jo (WP (letter i) j')=true;rcases (show j'=1\/j'=2 by omega) with rfl | rfl
    ·exact eE _ TcD
    exact eE _ TcD
   obtain rfl:=List.mem_singleton.1 hy;exact .thin rfl rfl rfl rfl j' rfl rfl ⟨_,ao3,rfl,by show x.kind=5;rw [e2,hk5']⟩
  ·have n1:dA (aA vl) false=[]:=af9 (fun v hv s hs=>by
    obtain ⟨nm,l,on,s',h1,h2,i',rfl⟩:=v5 v hv;obtain rfl:=List.mem_singleton.1 hs;exact ag2 0 l s' on) _
   have n2:ag5 vl=names:=by
    rw [al0 fun v hv=>?_,v1];obtain ⟨nm,l,on,s',h1,h2,i',rfl⟩:=v5 v hv;rfl
   have n3:dA (aA tl) false=[]:=ah5 fun q hq=>by
    obtain ⟨q1,q2⟩:=WF hq;obtain ⟨i',len,j',a1,a2,a3,a4,e⟩:=t6 _ q1;rw [e] at q2;rw [List.mem_singleton.1 q2];simp [dD,NE]
   have n4:ag5 tl=[]:=ah2 fun v hv=>by
    obtain ⟨i',len,j',a1,a2,a3,a4,rfl⟩:=t6 v hv;rfl
   have n5:dA (aA [⟨letter i,oX g.id (g.next+names.length+1),false,ro,tags,[x]⟩]) false=names:=by
    simp [aA,dA,ah1 hR AK]
   rw [ag7,ag7,ah3,ah3,ah8,ah8,n1,n2,n3,n4,n5];simp [ag5]
  show g.next<=g.next+names.length+1+tl.length;omega
end Go.Proofs.YtaagglbgohjldaaGreatDoor
