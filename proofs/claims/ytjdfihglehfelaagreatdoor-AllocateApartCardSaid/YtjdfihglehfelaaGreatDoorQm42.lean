/- Lemmas: AlcO, AlcQ. -/
import Derived.Test.YtjdfihglehfelaaGreatDoorQm39
import Derived.Test.YtjdfihglehfelaaGreatDoorQm41
set_option maxRecDepth 100000
set_option maxHeartbeats 32000000
set_option linter.all false
namespace Go.Proofs.YtjdfihglehfelaaGreatDoor
open Go.Proofs.Tryz
open Go.RowKit Go.Maps Go.Shelf
variable {g:af}{ok:Nat->Prop}
attribute [local go_sem] Oper.semAt_some
theorem Im {l:List ByteArray}(h:eP l=0):∀ t∈l,t.size<=24:=fun t ht=>by
 unfold eP at h;split at h
 ·cases h
 ·split at h
  ·rename_i ha
   obtain ⟨j,hj⟩:=fc ht;have vt:=(List.getElem?_eq_some_iff.1 hj).1;have:=List.all_eq_true.1 ha j (List.mem_range.2 vt);unfold kV at this;rw [eh] at this;have h1:=this.1;rw [List.getD_eq_getElem?_getD,hj] at h1;unfold mr at h1;simp only [eh,fk] at h1;exact h1.1.1.2
  ·cases h
theorem GM (h:(dw g).2=0):∀ d∈g.Gb,d.name.size<=24/\d.tags.length<=8/\∀ t∈d.tags,t.size<=24:=fun d hd=>by
 refine ⟨oo ((nG h).2 d hd).2,zy h d hd,?_⟩;obtain ⟨j,hj⟩:=fc hd;have:=ll (i:=0) h j d hj;rw [eJ] at this;unfold pg at this;split at this
 ·cases this
 ·split at this
  ·cases this
  ·split at this
   ·cases this
   ·exact Im this
theorem Jt (r:aY)(h:(dw g).2=0)(k:Nat):(kt g r k).size<=25:=by
 unfold kt jU;split
 ·exact cg _
 ·cases hd:g.Gb[(k:Int).toNat]? with
  | none=>exact cg _
  | some d =>
   obtain ⟨h1,-,h3⟩:=GM h d (ct hd);show (nU r.sep d).size<=25;unfold nU;cases hf:d.tags.find? (mq r.sep) with
   | some t =>
    have:=h3 t (eV hf);show t.size<=25;omega
   | none =>
    show (d.name++(⟨#[32]⟩:ByteArray)).size<=25;rw [CA];show d.name.size+1<=25;omega
theorem fH.runs {w:World}{B n₀:Nat}{px:Option Addr}{n cx:Nat}{xs:List (List (Int × Int))}(h:fH w B (.slice px n cx) xs)(hn:w.heap.size<=n₀):wI n₀ w px xs:=fun k x hx=>by
 obtain ⟨b,u,h1,-,h3,h4,h5⟩:=h.at hx;obtain ⟨p,c,rfl,hc1,hc2,hc3⟩:=h5.rd;refine ⟨b,p,c,h1,Tcd,h4,hc1,hc2,fun h0=>?_⟩;obtain ⟨b',off,e1,e2,e3⟩:=hc3 h0;exact ⟨b',off,e1,Tcd,e3⟩
noncomputable def xO (g:af)(r:aY)(xs:List (List (Int × Int))):List (List aR) × Bool :=
 if Db r=2 then ((DV g r (iU xs)).map (Zw g),decide ((DV g r (iU xs)).length=rE r))
 else if Db r=1 then ([((yh r.Gc (iU xs)).toList).map (UM g)],(yh r.Gc (iU xs)).isSome)
 else ([((qz r.Gc (iU xs)).1).map (UM g)],decide ((qz r.Gc (iU xs)).2<=0))
noncomputable def AC (g:af)(r:aY)(xs:List (List (Int × Int))):Int:=if kP g r=0 then (if (xO g r xs).2=true then 0 else 14) else kP g r
def Hl (g:af)(r:aY)(w:World)(e:Ending)(w':World):Prop :=
 ∃ v xs,e=.returned (.tuple #[v,.int .i64 (AC g r xs)])/\Below w.heap.size w w'/\tK g r xs/\(xs.length=if kP g r=0 then g.Gb.length else 0)/\(¬ AC g r xs=0->v=.slice none 0 0)/\(AC g r xs=0->mi w' w.heap.size v (xO g r xs).1)
theorem IY (r:aY):Db r=0\/Db r=1\/Db r=2:=by
 unfold Db;split
 ·exact .inr (.inr rfl)
 ·split
  ·exact .inr (.inl rfl)
  ·exact .inl rfl
theorem TbX {p:Prop}(h:p:=by
 go_wp2
 exact HK.o _ _ _ _ _ _ _ _ v w12 HO12.o KV.o):p:=h
theorem Gv (Q:Exit->Act->World->Prop)(c0 c1 c2 c3 c4 c5 c7 c9 c10 c11 c12 c13 c14 c15 c16 c17 c18 c19 c20 c21 c22 c23 c24 c25 c26 c27 c28 c29 c30 c31 c32 c33 c34 c35 c36 c37:Value)(w:World)(g:af)(a:bN)(r:aY)(px:Option Addr)(cx:Nat)(xs:List (List (Int × Int)))(B Bt Bf:Nat)(hq:rC r)(hgd:ck aO 7 ok w [.slice a.dp g.Gb.length a.dc] g.Gb)(QH:∀ d∈g.Gb,d.name.size<=24/\d.tags.length<=8/\∀ t∈d.tags,t.size<=24)(hcs:∀ k,(kt g r k).size<=25)(sB:CR g.Gb.length xs)(OI:xs.length<=cx/\cx<=9223372036854775807)(OA:fH w B (.slice px xs.length cx) xs)
  (ht:w.heap[Bt]?=some (.cells (Tac g a r xs.length px cx) 120 (0,0))) (hf:w.heap[Bf]?=some (.cells #[.func (.func 70) #[.agg (Tac g a r xs.length px cx)] #[],.func (.func 71) #[.agg (Tac g a r xs.length px cx)] #[],.func (.func 72) #[.agg (Tac g a r xs.length px cx)] #[]] 124 (0,0))) (hw:Db r=0)
  (HK:Hid (∀ (u27 u28 u29 u30 u31 u32 u33 u34:Value) (v:Value) (W':World),mi W' w.heap.size v (xO g r xs).1->Below w.heap.size w W'->Q .normal ⟨#[c0,c1,c2,c3,c4,c5,.pointer (some Bt),c7,.pointer (some Bf),v,.bool (xO g r xs).2,c11,c12,c13,c14,c15,c16,c17,c18,c19,c20,c21,c22,c23,c24,c25,c26,u27,u28,u29,u30,u31,u32,u33,u34,c35,c36,c37],[]⟩ W')) :
  (Ai Tryz.f30 5).wp prog Q ⟨#[c0,c1,c2,c3,c4,c5,.pointer (some Bt),c7,.pointer (some Bf),c9,c10,c11,c12,c13,c14,c15,c16,c17,c18,c19,c20,c21,c22,c23,c24,c25,c26,c27,c28,c29,c30,c31,c32,c33,c34,c35,c36,c37],[]⟩ w:=by
 conv=>arg 2;whnf
 have Mi:=aa (Gt g a r (.slice px xs.length cx) w hq);rw [hw] at Mi;have HX:Hid (xO g r xs=([((qz r.Gc (iU xs)).1).map (UM g)],decide ((qz r.Gc (iU xs)).2<=0))):=aa (by unfold xO;rw [bh (by rw [hw];decide),bh (by rw [hw];decide)]);have tL:=cz ht;obtain ⟨t0,t1,t2,t3,t4,t5,t6,t7,t8,t9,t10,t11⟩:=IE tL;have t12:=tL 12 _ rfl;have t13:=tL 13 _ rfl;have t14:=tL 14 _ rfl;have t15:=tL 15 _ rfl;have t16:=tL 16 _ rfl;clear tL hw;have HFB:=aa hf;clear hf ht;have PW:=aa OA;clear OA;have Zi:=aa hgd;clear hgd;have HDS:=aa QH;clear QH;have ME:=aa hcs;clear hcs;rw [HX.o] at HK
 go_wp2_with fail
 refine Mi.o.mono ?_;rintro e w11 ⟨rfl,hb11⟩;have C7:=aa hb11;have T8:=aa (PW.o.below hb11);have f0:=cz ((hb11.block _ (aq HFB.o)).trans HFB.o) 0 _ rfl;clear hb11 t0 t1 t2 t3 t4 t5 t6 t7 t8 t9 t10 t11 t12 t13 t14 t15 t16 Mi PW;have HCL:=aa (G9 (ok:=ok) g a r px cx xs w11 hq ((ck.moves aO.moves).mv (Mv.of C7.o) Zi.o) sB OI (T8.o.runs (bk _)))
 go_wp2_with fail
 refine HCL.o.mono ?_;rintro e w12 ⟨v,rfl,ho,hb12⟩;have hsz11:=C7.o.size;have HO12:=aa (ho.mono hsz11);have KV:=aa (C7.o.trans (hb12.mono hsz11));clear ho hb12 HCL f0;exact TbX
theorem GI (Q:Exit->Act->World->Prop)(c0 c1 c2 c3 c4 c5 c7 c9 c10 c11 c12 c13 c14 c15 c16 c17 c18 c19 c20 c21 c22 c23 c24 c25 c26 c27 c28 c29 c30 c31 c32 c33 c34 c35 c36 c37:Value)(w:World)(g:af)(a:bN)(r:aY)(px:Option Addr)(cx:Nat)(xs:List (List (Int × Int)))(B Bt Bf:Nat)(hq:rC r)(hgd:ck aO 7 ok w [.slice a.dp g.Gb.length a.dc] g.Gb)(QH:∀ d∈g.Gb,d.name.size<=24/\d.tags.length<=8/\∀ t∈d.tags,t.size<=24)(hcs:∀ k,(kt g r k).size<=25)(sB:CR g.Gb.length xs)(OI:xs.length<=cx/\cx<=9223372036854775807)(OA:fH w B (.slice px xs.length cx) xs)
  (ht:w.heap[Bt]?=some (.cells (Tac g a r xs.length px cx) 120 (0,0))) (hf:w.heap[Bf]?=some (.cells #[.func (.func 70) #[.agg (Tac g a r xs.length px cx)] #[],.func (.func 71) #[.agg (Tac g a r xs.length px cx)] #[],.func (.func 72) #[.agg (Tac g a r xs.length px cx)] #[]] 124 (0,0))) (hw:Db r=1)
  (HK:Hid (∀ (u27 u28 u29 u30 u31 u32 u33 u34:Value) (v:Value) (W':World),mi W' w.heap.size v (xO g r xs).1->Below w.heap.size w W'->Q .normal ⟨#[c0,c1,c2,c3,c4,c5,.pointer (some Bt),c7,.pointer (some Bf),v,.bool (xO g r xs).2,c11,c12,c13,c14,c15,c16,c17,c18,c19,c20,c21,c22,c23,c24,c25,c26,u27,u28,u29,u30,u31,u32,u33,u34,c35,c36,c37],[]⟩ W')) :
  (Ai Tryz.f30 5).wp prog Q ⟨#[c0,c1,c2,c3,c4,c5,.pointer (some Bt),c7,.pointer (some Bf),c9,c10,c11,c12,c13,c14,c15,c16,c17,c18,c19,c20,c21,c22,c23,c24,c25,c26,c27,c28,c29,c30,c31,c32,c33,c34,c35,c36,c37],[]⟩ w:=by
 conv=>arg 2;whnf
 have Mi:=aa (Gt g a r (.slice px xs.length cx) w hq);rw [hw] at Mi;have HX:Hid (xO g r xs=([((yh r.Gc (iU xs)).toList).map (UM g)],(yh r.Gc (iU xs)).isSome)):=aa (by unfold xO;rw [bh (by rw [hw];decide),aw hw]);have tL:=cz ht;obtain ⟨t0,t1,t2,t3,t4,t5,t6,t7,t8,t9,t10,t11⟩:=IE tL;have t12:=tL 12 _ rfl;have t13:=tL 13 _ rfl;have t14:=tL 14 _ rfl;have t15:=tL 15 _ rfl;have t16:=tL 16 _ rfl;clear tL hw;have HFB:=aa hf;clear hf ht;have PW:=aa OA;clear OA;have Zi:=aa hgd;clear hgd;have HDS:=aa QH;clear QH;have ME:=aa hcs;clear hcs;rw [HX.o] at HK
 go_wp2_with fail
 refine Mi.o.mono ?_;rintro e w11 ⟨rfl,hb11⟩;have C7:=aa hb11;have T8:=aa (PW.o.below hb11);have f1:=cz ((hb11.block _ (aq HFB.o)).trans HFB.o) 1 _ rfl;clear hb11 t0 t1 t2 t3 t4 t5 t6 t7 t8 t9 t10 t11 t12 t13 t14 t15 t16 Mi PW;have HCL:=aa (Hw (ok:=ok) g a r px cx xs w11 hq ((ck.moves aO.moves).mv (Mv.of C7.o) Zi.o) sB OI (T8.o.runs (bk _)))
 go_wp2_with fail
 refine HCL.o.mono ?_;rintro e w12 ⟨v,rfl,ho,hb12⟩;have hsz11:=C7.o.size;have HO12:=aa (ho.mono hsz11);have KV:=aa (C7.o.trans (hb12.mono hsz11));clear ho hb12 HCL f1;exact TbX
theorem GH (Q:Exit->Act->World->Prop)(c0 c1 c2 c3 c4 c5 c7 c9 c10 c11 c12 c13 c14 c15 c16 c17 c18 c19 c20 c21 c22 c23 c24 c25 c26 c27 c28 c29 c30 c31 c32 c33 c34 c35 c36 c37:Value)(w:World)(g:af)(a:bN)(r:aY)(px:Option Addr)(cx:Nat)(xs:List (List (Int × Int)))(B Bt Bf:Nat)(hq:rC r)(hgd:ck aO 7 ok w [.slice a.dp g.Gb.length a.dc] g.Gb)(QH:∀ d∈g.Gb,d.name.size<=24/\d.tags.length<=8/\∀ t∈d.tags,t.size<=24)(hcs:∀ k,(kt g r k).size<=25)(sB:CR g.Gb.length xs)(OI:xs.length<=cx/\cx<=9223372036854775807)(OA:fH w B (.slice px xs.length cx) xs)
  (ht:w.heap[Bt]?=some (.cells (Tac g a r xs.length px cx) 120 (0,0))) (hf:w.heap[Bf]?=some (.cells #[.func (.func 70) #[.agg (Tac g a r xs.length px cx)] #[],.func (.func 71) #[.agg (Tac g a r xs.length px cx)] #[],.func (.func 72) #[.agg (Tac g a r xs.length px cx)] #[]] 124 (0,0))) (hw:Db r=2)
  (HK:Hid (∀ (u27 u28 u29 u30 u31 u32 u33 u34:Value) (v:Value) (W':World),mi W' w.heap.size v (xO g r xs).1->Below w.heap.size w W'->Q .normal ⟨#[c0,c1,c2,c3,c4,c5,.pointer (some Bt),c7,.pointer (some Bf),v,.bool (xO g r xs).2,c11,c12,c13,c14,c15,c16,c17,c18,c19,c20,c21,c22,c23,c24,c25,c26,u27,u28,u29,u30,u31,u32,u33,u34,c35,c36,c37],[]⟩ W')) :
  (Ai Tryz.f30 5).wp prog Q ⟨#[c0,c1,c2,c3,c4,c5,.pointer (some Bt),c7,.pointer (some Bf),c9,c10,c11,c12,c13,c14,c15,c16,c17,c18,c19,c20,c21,c22,c23,c24,c25,c26,c27,c28,c29,c30,c31,c32,c33,c34,c35,c36,c37],[]⟩ w:=by
 conv=>arg 2;whnf
 have Mi:=aa (Gt g a r (.slice px xs.length cx) w hq);rw [hw] at Mi;have HX:Hid (xO g r xs=((DV g r (iU xs)).map (Zw g),decide ((DV g r (iU xs)).length=rE r))):=aa (by unfold xO;rw [aw hw]);have tL:=cz ht;obtain ⟨t0,t1,t2,t3,t4,t5,t6,t7,t8,t9,t10,t11⟩:=IE tL;have t12:=tL 12 _ rfl;have t13:=tL 13 _ rfl;have t14:=tL 14 _ rfl;have t15:=tL 15 _ rfl;have t16:=tL 16 _ rfl;clear tL hw;have HFB:=aa hf;clear hf ht;have PW:=aa OA;clear OA;have Zi:=aa hgd;clear hgd;have HDS:=aa QH;clear QH;have ME:=aa hcs;clear hcs;rw [HX.o] at HK
 go_wp2_with fail
 refine Mi.o.mono ?_;rintro e w11 ⟨rfl,hb11⟩;have C7:=aa hb11;have T8:=aa (PW.o.below hb11);have f2:=cz ((hb11.block _ (aq HFB.o)).trans HFB.o) 2 _ rfl;clear hb11 t0 t1 t2 t3 t4 t5 t6 t7 t8 t9 t10 t11 t12 t13 t14 t15 t16 Mi PW;have HCL:=aa (H9 (ok:=ok) g a r px cx xs w11 hq ((ck.moves aO.moves).mv (Mv.of C7.o) Zi.o) (fun d hd=>by have:=HDS.o d hd;omega) (fun k=>by have:=ME.o k;unfold maxLen;omega) sB OI (T8.o.runs (bk _)))
 go_wp2_with fail
 refine HCL.o.mono ?_;rintro e w12 ⟨v,rfl,ho,hb12⟩;have hsz11:=C7.o.size;have HO12:=aa (ho.mono hsz11);have KV:=aa (C7.o.trans (hb12.mono hsz11));clear ho hb12 HCL f2;exact TbX
theorem rA (g:af)(a:bN)(r:aY)(w:World)(hg:dN ok w g a)(hgi:NL g)(hr:dK r)(hS:AW w) :
  Calls prog 30 #[.agg (Tae g a),.agg (Taj r)] w (Hl g r w):=by
 have hA1:=ae w (.cells (Tae g a) 31);have hN1:=b9 w (.cells (Tae g a) 31);generalize hW1:w.alloc (.cells (Tae g a) 31)=W1 at *;have hA2:=ae W1 (.cells (Taj r) 35);have hN2:=b9 W1 (.cells (Taj r) 35);have hz1:W1.heap.size=w.heap.size+1:=by rw [<- hW1];exact cW ..
 generalize hW2:W1.alloc (.cells (Taj r) 35)=W2 at *;have hz2:W2.heap.size=w.heap.size+2:=by rw [<- hW2,cW,hz1]
 have HB:=aa (hA1.trans (hA2.mono Tcd));have HG1:=aa ((hA2.block _ Tcd).trans hN1);have Lz:=aa hN2;rw [hz1] at Lz;clear hA1 hA2 hN1 hN2;have gL:=cz HG1.o;obtain ⟨g0,g1,g2,g3,g4,g5,g6,g7,g8⟩:=xr gL;have qL:=cz Lz.o;obtain ⟨q0,q1,q2,q3,q4,q5,q6⟩:=se qL;clear gL qL;have HP:=aa (GA g a r W2 (hg.mv (Mv.of HB.o)) hgi hr (hS.below HB.o));have Zi:=aa hg.Gb;clear hg hS;go_enter func30,ntmps30
 go_wp2_with fail
 clear g0 g1 g2 g3 g4 g5 g6 g7 g8 q0 q1 q2 q3 q4 q5 q6
 try simp only [hW1,hW2]
 clear hW1 hW2;refine HP.o.mono ?_;clear HP;intro e w8 hp;obtain ⟨xv,xs,rfl,OA,Zs,vh,hb8⟩:=hp;have Ix:=aa (HB.o.trans (hb8.mono HB.o.size));obtain ⟨px,cx,rfl,PY,Ma⟩:=OA.cap;have PW:=aa OA;have HXP:=aa Zs;have NA:=aa vh;clear hb8 OA Zs vh HG1 Lz HB;have hA9:=ae w8 (.cells (Tac g a r xs.length px cx) 120);have HN9:=aa (b9 w8 (.cells (Tac g a r xs.length px cx) 120));have J1:=aa (Ix.o.trans (hA9.mono Ix.o.size));have Tv:=aa (PW.o.below hA9);clear hA9 PW;have tL:=cz HN9.o;obtain ⟨t0,t1,t2,t3,t4,t5,t6,t7,t8,t9,t10,t11⟩:=IE tL;have t12:=tL 12 _ rfl;have t13:=tL 13 _ rfl;have t14:=tL 14 _ rfl;have t15:=tL 15 _ rfl;have t16:=tL 16 _ rfl;clear tL
 by_cases Mu:kP g r=0
 ·have hne:(kP g r != 0)=false:=by rw [Mu];rfl
  have HAE:Hid (AC g r xs=if (xO g r xs).2=true then 0 else 14):=aa (aw Mu);have LU:=aa Mu;rw [aw Mu] at NA;have hq:=rC.of Mu
  have tP:(pM g).2=0:=by
   unfold kP at Mu;split at Mu
   ·assumption
   ·rename_i hm
    exact absurd Mu hm
  have hdr:=(Dg tP).2.1;have yi:=aa (tK.runs (Fb hgi tP) HXP.o NA.o);have ME:=aa (Jt r hdr);have HDS:=aa (GM hdr);clear tP hdr;rw [Mu] at hne;rw [Mu];clear Mu;have hA10:=ae (w8.alloc (.cells (Tac g a r xs.length px cx) 120)) (.cells #[.func (.func 70) #[.agg (Tac g a r xs.length px cx)] #[],.func (.func 71) #[.agg (Tac g a r xs.length px cx)] #[],.func (.func 72) #[.agg (Tac g a r xs.length px cx)] #[]] 124);have ae8:=aa (b9 (w8.alloc (.cells (Tac g a r xs.length px cx) 120)) (.cells #[.func (.func 70) #[.agg (Tac g a r xs.length px cx)] #[],.func (.func 71) #[.agg (Tac g a r xs.length px cx)] #[],.func (.func 72) #[.agg (Tac g a r xs.length px cx)] #[]] 124));have Ax:=aa (J1.o.trans (hA10.mono J1.o.size));have Mj:=aa (Tv.o.below hA10);have af8:=aa ((hA10.block _ (aq HN9.o)).trans HN9.o);clear hA10
  go_upto_region 5 with (fail)
  clear t0 t1 t2 t3 t4 t5 t6 t7 t8 t9 t10 t11 t12 t13 t14 t15 t16;generalize hW10:World.alloc (World.alloc w8 _) _=W10 at *;rw [cW] at ae8;clear hW10
  have ag7:Hid (∀ (Q:Exit->Act->World->Prop) (c0 c1 c2 c3 c4 c5 c7 c9 c10 c11 c12 c13 c14 c15 c16 c17 c18 c19 c20 c21 c22 c23 c24 c25 c26 c27 c28 c29 c30 c31 c32 c33 c34 c35 c36 c37:Value),Hid (∀ (u27 u28 u29 u30 u31 u32 u33 u34:Value) (v:Value) (W':World),mi W' W10.heap.size v (xO g r xs).1->Below W10.heap.size W10 W'->Q .normal ⟨#[c0,c1,c2,c3,c4,c5,.pointer (some w8.heap.size),c7,.pointer (some (Tab (w8.heap.size+1) 0)),v,.bool (xO g r xs).2,c11,c12,c13,c14,c15,c16,c17,c18,c19,c20,c21,c22,c23,c24,c25,c26,u27,u28,u29,u30,u31,u32,u33,u34,c35,c36,c37],[]⟩ W')->(Ai Tryz.f30 5).wp prog Q ⟨#[c0,c1,c2,c3,c4,c5,.pointer (some w8.heap.size),c7,.pointer (some (Tab (w8.heap.size+1) 0)),c9,c10,c11,c12,c13,c14,c15,c16,c17,c18,c19,c20,c21,c22,c23,c24,c25,c26,c27,c28,c29,c30,c31,c32,c33,c34,c35,c36,c37],[]⟩ W10):=aa (by
   intro Q c0 c1 c2 c3 c4 c5 c7 c9 c10 c11 c12 c13 c14 c15 c16 c17 c18 c19 c20 c21 c22 c23 c24 c25 c26 c27 c28 c29 c30 c31 c32 c33 c34 c35 c36 c37 HK;have hgd:=(ck.moves aO.moves).mv (Mv.of Ax.o) Zi.o;rcases IY r with hw | hw | hw
   ·exact Gv (ok:=ok) Q c0 c1 c2 c3 c4 c5 c7 c9 c10 c11 c12 c13 c14 c15 c16 c17 c18 c19 c20 c21 c22 c23 c24 c25 c26 c27 c28 c29 c30 c31 c32 c33 c34 c35 c36 c37 W10 g a r px cx xs _ _ _ hq hgd HDS.o ME.o yi.o ⟨PY,Ma⟩ Mj.o af8.o ae8.o hw HK
   ·exact GI (ok:=ok) Q c0 c1 c2 c3 c4 c5 c7 c9 c10 c11 c12 c13 c14 c15 c16 c17 c18 c19 c20 c21 c22 c23 c24 c25 c26 c27 c28 c29 c30 c31 c32 c33 c34 c35 c36 c37 W10 g a r px cx xs _ _ _ hq hgd HDS.o ME.o yi.o ⟨PY,Ma⟩ Mj.o af8.o ae8.o hw HK
   ·exact GH (ok:=ok) Q c0 c1 c2 c3 c4 c5 c7 c9 c10 c11 c12 c13 c14 c15 c16 c17 c18 c19 c20 c21 c22 c23 c24 c25 c26 c27 c28 c29 c30 c31 c32 c33 c34 c35 c36 c37 W10 g a r px cx xs _ _ _ hq hgd HDS.o ME.o yi.o ⟨PY,Ma⟩ Mj.o af8.o ae8.o hw HK)
  have hsz10:=Ax.o.size;refine ag7.o _ _ _ _ _ _ _ _ _ _ _ _ _ _ _ _ _ _ _ _ _ _ _ _ _ _ _ _ _ _ _ _ _ _ _ _ _ (aa ?_);intro u27 u28 u29 u30 u31 u32 u33 u34 v w12 ho hb12;obtain ⟨pv,cv,rfl,-,-⟩:=ho.cap;have HO12:=aa (ho.mono hsz10);have KV:=aa (Ax.o.trans (hb12.mono hsz10));clear ho hb12 ag7;cases hk:(xO g r xs).2 with
  | true =>
   have HE0:Hid (AC g r xs=0):=aa (by rw [HAE.o,hk];rfl);clear hk;go_wp2;go_ret2;exact (show Hl g r w _ _ from ⟨.slice pv _ cv,xs,by rw [HE0.o];rfl,KV.o,HXP.o,by rw [LU.o];exact NA.o,fun h=>absurd HE0.o h,fun _=>HO12.o⟩)
  | false =>
   have HE0:Hid (AC g r xs=14):=aa (by rw [HAE.o,hk];rfl);clear hk;go_wp2;go_ret2;exact (show Hl g r w _ _ from ⟨.slice none 0 0,xs,by rw [HE0.o];rfl,KV.o,HXP.o,by rw [LU.o];exact NA.o,fun _=>rfl,fun h=>by rw [HE0.o] at h;cases h⟩)
 ·have hne:(kP g r != 0)=true:=by simpa using Mu
  have HAE:Hid (AC g r xs=kP g r):=aa (bh Mu);have LU:=aa Mu;clear Mu;go_wp2;go_ret2;exact (show Hl g r w _ _ from ⟨.slice none 0 0,xs,by rw [HAE.o];rfl,J1.o,HXP.o,NA.o,fun _=>rfl,fun h=>absurd (HAE.o.symm.trans h) LU.o⟩)
end Go.Proofs.YtjdfihglehfelaaGreatDoor
namespace Go.Proofs.YtjdfihglehfelaaGreatDoor
open Go.Proofs.Tryz
open Go.RowKit Go.Maps Go.Shelf
attribute [local go_sem] Oper.semAt_some run_makeMap_plain
def Jf (l:List (Nat × (Int × Int))):Int:=l.foldl (fun m x=>max m x.2.2) 0
def Zv (r:aY)(l:List (Nat × (Int × Int))):Int:=if r.Gg=1 then Jf l else pq l
theorem I8 (l:List (Nat × (Int × Int)))(x:Nat × (Int × Int)):Jf (l++[x])=max (Jf l) x.2.2:=by simp [Jf,List.foldl_append]
theorem Io:∀ (l:List (Nat × (Int × Int))) (m:Int),0<=m->m<=4096->(∀ y∈l,1<=y.2.2/\y.2.2<=4096)->0<=l.foldl (fun m x=>max m x.2.2) m/\l.foldl (fun m x=>max m x.2.2) m<=4096
 | [],m,h0,h1,_=>⟨h0,h1⟩
 | y :: l,m,h0,h1,h=>by
  have hy:=h y (cG ..);exact Io l (max m y.2.2) Tcd Tcd fun z hz=>h z (kn _ hz)
def RfI (g:af)(a:bN)(r:aY)(px:Option Addr)(cx b0:Nat)(xs:List (List (Int × Int)))(W6:World)(pre:List (GN xs))(W:World):Prop:=W.heap[b0+1]?=some (.cells #[.int .i64 0,.int .i64 (Zv r (pre.map (·.1))),.int .i64 r.Gc] 71 (0,0))/\W.heap[b0]?=some (.cells (Tac g a r xs.length px cx) 120 (0,0))/\Below b0 W6 W/\W6.heap.size<=W.heap.size/\pre.length<=(iU xs).length
theorem RfI.own {g:af}{a:bN}{r:aY}{px:Option Addr}{cx b0:Nat}{xs:List (List (Int × Int))}{W6:World}(hz6:W6.heap.size=b0+5):OwnFrom W6.heap.size (RfI g a r px cx b0 xs W6):=by
 rintro pre W W' row ⟨h1,h2,h3,h4,h5⟩ hg hr;exact ⟨xu hg hr h1,xu hg hr h2,h3.grown hg (by have:=h3.size;omega) (fun k e=>by have:=(hr k e).1;omega),cA h4 hg.size,h5⟩
theorem IA {r:aY}(h:r.Gi*r.Gh=1):Db r=if r.Gg=1 then 1 else 0:=by
 unfold Db;rw [bh Tcd]
theorem JF (Q:Exit->Act->World->Prop){c0 c1 c2 c3 c4 c5 c7 c9 c10 c11 c12 c13 c14 c15 c16 c17 c18 c19 c20 c21 c22 c23 c24 c25 c26 c27 c28 c30 c31 c32 c33 c34 c35 c36 c37 c38 c39 c40 c41 c42 c43 c44 c45 c46 c47 c48 c49 c50 c51 c52 c53 c54 c55 c56 c57 c58 c59 c60 c61 c62 c63 c64 c65 c66 c67 c68 c69 c70 c71 c72 c73 c74 c75 c76 c77 c78 c79 c80 c81 c82 c83 c84 c85 c86 c87 c88 c89 c90 c91 c92 c93 c94 c95 c96 c97:Value}(g:af)(a:bN)(r:aY)(px:Option Addr)(cx b0:Nat)(xs:List (List (Int × Int)))(W6:World)(hz6:W6.heap.size=b0+5)(hq:rC r)(h1p:r.Gi*r.Gh=1)(hx:CR g.Gb.length xs)(OI:xs.length<=cx/\cx<=9223372036854775807)
  (hr:wI b0 W6 px xs)
  (ht5:W6.heap[b0+4]?=some (.cells (Tac g a r xs.length px cx) 120 (0,0))) (ht0:W6.heap[b0]?=some (.cells (Tac g a r xs.length px cx) 120 (0,0))) (hx6:W6.heap[b0+1]?=some (.cells #[.int .i64 0,.int .i64 0,.int .i64 r.Gc] 71 (0,0)))
  (HK:Hid (∀ (D:Nat) (W:World),W.heap[b0+1]?=some (.cells #[.int .i64 0,.int .i64 (Zv r (iU xs)),.int .i64 r.Gc] 71 (0,0))->W.heap[b0]?=some (.cells (Tac g a r xs.length px cx) 120 (0,0))->Below b0 W6 W->W6.heap.size<=W.heap.size->W6.heap.size<=D->W.heap[D]?=some (.deferred (some []))->Q .normal ⟨#[c0,c1,c2,c3,c4,c5,.pointer (some b0),c7,.pointer (some (Tab (b0+1) 0)),c9,c10,c11,c12,c13,c14,c15,c16,c17,c18,c19,c20,c21,c22,c23,c24,c25,c26,c27,c28,.func (.func 130) #[] #[.pointer (some (Tab (b0+4) 0))],c30,c31,c32,c33,c34,c35,c36,c37,c38,c39,c40,c41,c42,c43,c44,c45,c46,c47,c48,c49,c50,c51,c52,c53,c54,c55,c56,c57,c58,c59,c60,c61,c62,c63,c64,c65,c66,c67,c68,c69,c70,c71,c72,c73,c74,c75,c76,c77,c78,c79,c80,c81,c82,c83,c84,c85,c86,c87,c88,c89,c90,c91,c92,c93,c94,c95,c96,c97],[{ target:=.collected D,args:=#[] }]⟩ W)) :
  (He Tryz.f32).wp prog Q ⟨#[c0,c1,c2,c3,c4,c5,.pointer (some b0),c7,.pointer (some (Tab (b0+1) 0)),c9,c10,c11,c12,c13,c14,c15,c16,c17,c18,c19,c20,c21,c22,c23,c24,c25,c26,c27,c28,.func (.func 130) #[] #[.pointer (some (Tab (b0+4) 0))],c30,c31,c32,c33,c34,c35,c36,c37,c38,c39,c40,c41,c42,c43,c44,c45,c46,c47,c48,c49,c50,c51,c52,c53,c54,c55,c56,c57,c58,c59,c60,c61,c62,c63,c64,c65,c66,c67,c68,c69,c70,c71,c72,c73,c74,c75,c76,c77,c78,c79,c80,c81,c82,c83,c84,c85,c86,c87,c88,c89,c90,c91,c92,c93,c94,c95,c96,c97],[]⟩ W6:=by
 conv=>arg 2;whnf
 refine (wpIn_wide (n:=3)).1 ?_;have hn8:=hx.n8;have vh:=hx.len
 refine wpIn_rangeFunc_ownH (F:=Fence.wide) rfl Tcd (gf:=130) (lb:=#[.pointer (some (Tab (b0+4) 0))]) rfl trivial (enters_of func130 Tcf rfl)
  (BO (3 - 1) b0 (b0+4) Tcd W6 px cx xs (cz ht5 16 _ rfl) OI Tcd Tcd hr Tcd (fun x hx'=>by have:=hx.x1 x hx';omega))
  Below.trans (fun W l o o' hl h h1 h2=>belowK_b (w:=W6) Tcd W l o o' hl h h1 h2) (bj _ _) (fun _=>rfl)
  (RfI g a r px cx b0 xs W6)
  (fun _ _ _=>False) ?own (fun _ _ _ _ _ h _ _=>h) ?init
  (fun x a' W=>∃ (Br:Nat) (v32 v33 v34 v35 v36 v37 v38 v39 v40 v41 v42 v43 v44 v45 v46 v47 v48 v49 v50 v51 v52 v53 v54 v55 v56 v57:Value),W.heap[Br]?=some (.cells #[.int .i64 x.1.2.1,.int .i64 x.1.2.2] 62 (0,0))/\W6.heap.size<=Br/\a'=⟨#[c0,c1,c2,c3,c4,c5,.pointer (some b0),c7,.pointer (some (Tab (b0+1) 0)),c9,.int .i64 (x.1.1:Int),.pointer (some Br),c12,c13,c14,c15,c16,c17,c18,c19,c20,c21,c22,c23,c24,c25,c26,c27,c28,.func (.func 130) #[] #[.pointer (some (Tab (b0+4) 0))],.int .i64 (x.1.1:Int),.agg #[.int .i64 x.1.2.1,.int .i64 x.1.2.2],v32,v33,v34,v35,v36,v37,v38,v39,v40,v41,v42,v43,v44,v45,v46,v47,v48,v49,v50,v51,v52,v53,v54,v55,v56,v57,c58,c59,c60,c61,c62,c63,c64,c65,c66,c67,c68,c69,c70,c71,c72,c73,c74,c75,c76,c77,c78,c79,c80,c81,c82,c83,c84,c85,c86,c87,c88,c89,c90,c91,c92,c93,c94,c95,c96,c97],[]⟩) ?ax ?assign ?body ?done ?stop
 case own=>exact RfI.own hz6
 case init=>exact ⟨by rw [show Zv r (([]:List (GN xs)).map (·.1))=0 from by unfold Zv;split <;> rfl];exact hx6,ht0,bj _ _,bk _,cg _⟩
 case ax =>
  rintro x a' _ W W' row ⟨Br,v32,v33,v34,v35,v36,v37,v38,v39,v40,v41,v42,v43,v44,v45,v46,v47,v48,v49,v50,v51,v52,v53,v54,v55,v56,v57,h1,h2,h3⟩ hg hr;exact ⟨Br,v32,v33,v34,v35,v36,v37,v38,v39,v40,v41,v42,v43,v44,v45,v46,v47,v48,v49,v50,v51,v52,v53,v54,v55,v56,v57,xu hg hr h1,h2,h3⟩
 case assign =>
  rintro l pre x W K ⟨h1,h2,h3,h4,h5⟩ hK;have HI:=aa (⟨h1,h2,h3,h5⟩:_/\_/\_/\_);clear h1 h2 h3 h5;have HK:=aa hK;clear hK;simp only [IP,List.zip_toArray,List.zip_cons_cons,List.zip_nil_right,List.foldl_toArray,cF,cq,xT,List.set_cons_succ,List.set_cons_zero]
  gi_wp2
  obtain ⟨h1,h2,h3,h5⟩:=HI.o;have sk:=ae W (.cells #[.int .i64 x.1.2.1,.int .i64 x.1.2.2] 62);refine HK.o _ _ ((KeepsOthers.alloc _ _).from _) (sk.mono Tcd) ⟨(sk.block _ (aq h1)).trans h1,(sk.block _ (aq h2)).trans h2,h3.trans (sk.mono Tcd),cA h4 sk.size,h5⟩ ⟨W.heap.size,_,_,_,_,_,_,_,_,_,_,_,_,_,_,_,_,_,_,_,_,_,_,_,_,_,_,b9 W _,h4,rfl⟩
 case body =>
  rintro lr pre x a' W hlr _ ⟨h1,h2,h3,h4,h5⟩ ⟨Br,v32,v33,v34,v35,v36,v37,v38,v39,v40,v41,v42,v43,v44,v45,v46,v47,v48,v49,v50,v51,v52,v53,v54,v55,v56,v57,k1,k2,rfl⟩ hlt;have tL:=cz h2;obtain ⟨t0,t1,t2,t3,t4,t5,t6,t7,t8,t9,t10,t11⟩:=IE tL;have t12:=tL 12 _ rfl;have t13:=tL 13 _ rfl;have t14:=tL 14 _ rfl;have t15:=tL 15 _ rfl;have t16:=tL 16 _ rfl;clear tL;obtain ⟨hy1,hy2,hy3,hy4⟩:=hx.yy x.1 x.2;have TW:(pre++[x]).length<=(iU xs).length:=by rw [cD,A4];exact hlt
  have hsm:=hx.sum pre Tcd
  have hmx:=Io (pre.map (·.1)) 0 Tcd Tcd (fun y hy=>by
   obtain ⟨z,-,rfl⟩:=List.mem_map.1 hy;have:=hx.yy z.1 z.2
   omega)
  have OL:∀ (W1:World) (y:Value),Below W.heap.size W W1->y=.int .i64 (Zv r ((pre++[x]).map (·.1)))->KeepsFrom W6.heap.size W (W1.setCell (Tab (b0+1) 1) y)/\Below b0 W (W1.setCell (Tab (b0+1) 1) y)/\RfI g a r px cx b0 xs W6 (pre++[x]) (W1.setCell (Tab (b0+1) 1) y):=fun W1 y hb he=>by
   have hbl:=aq h1;have ks:∀ k,k≠b0+1->(W1.setCell (Tab (b0+1) 1) y).heap[k]?=W1.heap[k]?:=fun k e=>bw _ _ _ _ e;have hs:(W1.setCell (Tab (b0+1) 1) y).heap.size=W1.heap.size:=by simp [World.setCell]
   have PD:Below b0 W (W1.setCell (Tab (b0+1) 1) y):=(hb.mono Tcd).setCell (p:=⟨b0+1,1,none⟩) (by show b0<=b0+1;omega) y;refine ⟨⟨by rw [hs];exact hb.size,fun k o hk hk1 hk2=>(ks k Tcd).trans ((hb.block k (lZ hk1)).trans hk1)⟩,PD,?_,(ks _ Tcd).trans ((hb.block _ Tcd).trans h2),h3.trans PD,by rw [hs];exact cA h4 hb.size,TW⟩
   rw [<- he];exact block_setCell (cs:=#[_,_,_]) (i:=1) y ((hb.block _ hbl).trans h1)
  have fN:=aa OL;have HH:=aa (⟨h1,k1⟩:_/\_);have Mi:=aa (Gt g a r (.slice px xs.length cx) W hq);rw [IA h1p] at Mi;have HSM:=aa (⟨hsm,hmx⟩:_/\_);clear h1 h2 h3 h5 k1 TW OL hz6 hsm hmx h1p vh
  by_cases hp:r.Gg=1
  ·rw [aw hp] at Mi
   have hv:Zv r (pre.map (·.1))=Jf (pre.map (·.1)):=aw hp;have hv2:Zv r ((pre++[x]).map (·.1))=max (Jf (pre.map (·.1))) x.1.2.2:=by unfold Zv;rw [aw hp,gl,List.map_singleton,I8]
   have Sq:=aa hv2;rw [hv] at HH;clear hp hv hv2
   gi_wp2_with fail
   clear t0 t1 t2 t3 t4 t5 t6 t7 t8 t9 t10 t11 t12 t13 t14 t15 t16;refine ⟨trivial,CallsIn.inRound lr (callsIn_wide.2 (Mi.o.mono ?_))⟩;rintro e W1 ⟨rfl,hb1⟩;have q1:=(hb1.block _ (aq HH.o.1)).trans HH.o.1;have x1:=cz q1 1 _ rfl;have xf:=uy q1;have r1:=cz ((hb1.block _ (aq HH.o.2)).trans HH.o.2) 1 _ rfl;have cU:=aa hb1;clear q1 hb1 Mi HH
   gi_wp2
   exact fN.o _ _ cU.o (by rw [Sq.o])
  ·rw [bh hp] at Mi
   have hv:Zv r (pre.map (·.1))=pq (pre.map (·.1)):=bh hp;have hv2:Zv r ((pre++[x]).map (·.1))=pq (pre.map (·.1))+x.1.2.2:=by unfold Zv;rw [bh hp,gl,List.map_singleton,Gu]
   have Sq:=aa hv2;rw [hv] at HH;have hw:IntKind.i64.wrap (pq (pre.map (·.1))+x.1.2.2)=pq (pre.map (·.1))+x.1.2.2:=dy _ (by have:=HSM.o.1;omega);clear hp hv hv2
   gi_wp2_with fail
   clear t0 t1 t2 t3 t4 t5 t6 t7 t8 t9 t10 t11 t12 t13 t14 t15 t16;refine ⟨trivial,CallsIn.inRound lr (callsIn_wide.2 (Mi.o.mono ?_))⟩;rintro e W1 ⟨rfl,hb1⟩;have q1:=(hb1.block _ (aq HH.o.1)).trans HH.o.1;have x1:=cz q1 1 _ rfl;have xf:=uy q1;have r1:=cz ((hb1.block _ (aq HH.o.2)).trans HH.o.2) 1 _ rfl;have cU:=aa hb1;clear q1 hb1 Mi HH
   gi_wp2
   exact fN.o _ _ cU.o (by rw [Sq.o])
 case done =>
  rintro D ys W hD rfl ⟨h1,h2,h3,h4,h5⟩ hK;rw [Gr] at h1;exact HK.o D W h1 h2 h3 h4 hD hK
 case stop =>
  rintro D c pre W _ _ h _;exact h.elim
end Go.Proofs.YtjdfihglehfelaaGreatDoor
