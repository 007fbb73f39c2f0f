/- Lemmas: ModJ, ModK. -/
import Derived.Test.YtjdfihglehfelaaGreatDoorPk20
set_option maxRecDepth 100000
set_option maxHeartbeats 32000000
set_option linter.all false
namespace Go.Proofs.YtjdfihglehfelaaGreatDoor
open Go.RowKit Go.Maps Go.Shelf
def aA (F9:List ay):List (ay × aB):=F9.flatMap fun v=>v.Gf.map fun s=>(v,s)
def bD (E:List (ay × aB)→ay→aB→Int):List (ay × aB)→List (ay × aB)→ByteArray × Int
 | _,[]=>(⟨#[]⟩,0)
 | pre,(v,s) :: r=>if E pre v s=0 then bD E (pre++[(v,s)]) r else (v.name,E pre v s)
theorem xB (F9:List ay)(k:Nat)(v:ay)(h:F9[k]?=some v):aA (F9.take (k+1))=aA (F9.take k)++v.Gf.map (fun s=>(v,s)):=by
 rw [take_snoc' F9 k v h];simp [aA]
theorem vI (F9:List ay)(k:Nat)(v:ay)(h:F9[k]?=some v)(j:Nat)(s:aB)(hs:v.Gf[j]?=some s) :
  aA F9=(aA (F9.take k)++(v.Gf.take j).map (fun s=>(v,s)))++(v,s) :: ((v.Gf.drop (j+1)).map (fun s=>(v,s))++aA (F9.drop (k+1))):=by
 obtain ⟨hk,hv⟩:=List.getElem?_eq_some_iff.1 h;obtain ⟨hj,hs'⟩:=List.getElem?_eq_some_iff.1 hs;conv=>lhs;rw [← List.take_append_drop k F9,List.drop_eq_getElem_cons hk,hv]
 have e:v.Gf=v.Gf.take j++s :: v.Gf.drop (j+1):=by
  conv=>lhs;rw [← List.take_append_drop j v.Gf,List.drop_eq_getElem_cons hj,hs']
 unfold aA;rw [List.flatMap_append,List.flatMap_cons];conv=>lhs;rw [e]
 simp
def zY (ok F:Nat→Prop)(fid:FuncId)(caps:List Value)(F9:List ay)(E:List (ay × aB)→ay→aB→Int)(I:List (ay × aB)→World→Prop)(w:World):Prop :=
 ∀ (pre:List (ay × aB)) (v:ay) (s:aB) (post:List (ay × aB)),aA F9=pre++(v,s) :: post→∀ (W:World) (u1 u2:List Value),Mod F w W→I pre W→aN ok W u1 v→bC ok W u2 s →
  Calls Tryz.prog fid ([Value.agg u1.toArray,Value.agg u2.toArray]++caps).toArray W fun e W'=>e=.returned (.int .i64 (E pre v s))∧Mod F W W'∧(E pre v s=0→I (pre++[(v,s)]) W')
def Aa (F:Nat→Prop)(F9:List ay)(E:List (ay × aB)→ay→aB→Int)(I:List (ay × aB)→World→Prop)(w:World)(e:Ending)(w':World):Prop :=
 e=.returned (.tuple #[.string (bD E [] (aA F9)).1,.int .i64 (bD E [] (aA F9)).2])∧Mod F w w'∧((bD E [] (aA F9)).2=0→I (aA F9) w')
theorem Mv.mod {ok F:Nat→Prop}{w w':World}(hm:Mod F w w')(hF:∀ k,F k→¬ ok k):Mv ok ok w w':=⟨hm.size,fun b hb ho=>⟨ho,hm.block b hb (fun f=>hF b f ho)⟩⟩
def fV (F9:List ay)(k j:Nat)(v:ay):List (ay × aB):=(v.Gf.drop j).map (fun s=>(v,s))++aA (F9.drop (k+1))
def bW (F9:List ay)(k j:Nat)(v:ay):List (ay × aB):=aA (F9.take k)++(v.Gf.take j).map (fun s=>(v,s))
theorem jK (F9:List ay)(k:Nat)(v:ay)(h:F9[k]?=some v):aA (F9.drop k)=fV F9 k 0 v:=by
 obtain ⟨hk,hv⟩:=List.getElem?_eq_some_iff.1 h;unfold fV aA;rw [List.drop_eq_getElem_cons hk,hv,List.flatMap_cons,List.drop_zero]
theorem ku (F9:List ay)(k j:Nat)(v:ay)(s:aB)(hs:v.Gf[j]?=some s):fV F9 k j v=(v,s) :: fV F9 k (j+1) v:=by
 obtain ⟨hj,hs'⟩:=List.getElem?_eq_some_iff.1 hs;unfold fV;rw [List.drop_eq_getElem_cons hj,hs'];rfl
theorem lh (F9:List ay)(k:Nat)(v:ay):fV F9 k v.Gf.length v=aA (F9.drop (k+1)):=by
 unfold fV;rw [List.drop_length];rfl
theorem eQ (F9:List ay)(k:Nat)(v:ay):bW F9 k 0 v=aA (F9.take k):=by simp [bW]
theorem fG (F9:List ay)(k j:Nat)(v:ay)(s:aB)(hs:v.Gf[j]?=some s):bW F9 k (j+1) v=bW F9 k j v++[(v,s)]:=by
 unfold bW;rw [take_snoc' v.Gf j s hs];simp
theorem fJ (F9:List ay)(k:Nat)(v:ay)(h:F9[k]?=some v):bW F9 k v.Gf.length v=aA (F9.take (k+1)):=by
 unfold bW;rw [List.take_length,xB F9 k v h]
theorem jB (F9:List ay)(k j:Nat)(v:ay)(s:aB)(h:F9[k]?=some v)(hs:v.Gf[j]?=some s):aA F9=bW F9 k j v++(v,s) :: fV F9 k (j+1) v:=vI F9 k v h j s hs
theorem DV {ok F:Nat→Prop}(g:af)(a:bN)(bc:Nat)(p0:Value)(E:List (ay × aB)→ay→aB→Int)(I:List (ay × aB)→World→Prop)(w:World)(hck:gY w bc g a)(hg:dN ok w g a)(hz:GSz g)
  (hF:∀ k,F k→k<w.heap.size∧¬ ok k) (hI:∀ pre W W',I pre W→Below W.heap.size W W'→I pre W') (h0:I [] w) (hC:zY ok F 142 [p0] g.F9 E I w) :
  Calls Tryz.prog 141 #[.pointer (some ⟨bc,0,none⟩),.func (.func 142) #[] #[p0]] w (Aa F g.F9 E I w):=by
 have hbcl:=hck.lt;obtain ⟨sm,hblk,_⟩:=hck;have HCB:Hid (bX w bc sm g a):=aa hblk;clear hblk;obtain ⟨g0,g1,g2,g3,g4,g5,g6,g7,g8⟩:=bX.cells HCB.out;have HG:=aa hg.F9;have HZ:=aa hz;have hvl:=hz.vl;obtain ⟨vp,vc,hvpc,hvc1,hvc2⟩:=hg.F9.cap;have HFF:=aa hF;clear hF;have HII:=aa hI;clear hI;have HCC:=aa hC;clear hC;have H0:=aa h0;clear h0 hg hz;injection hvpc with e1 e2 e3
 obtain ⟨gtp,gtc,gdp,gdc,gvp,gvc,ghp,ghc⟩:=a;dsimp only at e1 e2 e3 g0 g1 g2 g3 g4 g5 g6 g7 g8;subst e1;subst e3;clear e2;go_enter Tryz.func141,Tryz.ntmps141;go_wp2;clear g0 g1 g2 g3 g4 g5 g6 g7 g8
 go_loopw [17] (fun i wr=>∃ k:Nat,k≤g.F9.length∧i=.int .i64 k∧Mod F w wr∧I (aA (g.F9.take k)) wr∧bD E [] (aA g.F9)=bD E (aA (g.F9.take k)) (aA (g.F9.drop k))) (fun i _=>g.F9.length - (intOf i).toNat)
 case atStart=>exact ⟨0,Nat.zero_le _,rfl,Mod.refl _ _,H0.out,rfl⟩
 case round =>
  clear H0;obtain ⟨k,hk,rfl,hm,hi,he⟩:=hrel;have HM:=aa hm;clear hm;have HI:=aa hi;clear hi;have HE:=aa he;clear he
  by_cases hlt:k<g.F9.length
  ·obtain ⟨v,hv⟩:=aj g.F9 k hlt
   obtain ⟨b,off,us,rfl,hob,hbw,hul,hvs,hcv⟩:=HG.out.elem hv;have HVV:=aa hvs;have hvz:=HZ.out.vz v (List.mem_of_getElem? hv);have hsl:=hvz.Gf;obtain ⟨tv,sv,rfl,htr,hsr⟩:=hvs;obtain ⟨tp,tc,rfl,_,_⟩:=htr.cap;obtain ⟨sp,sc,rfl,hsc1,hsc2⟩:=hsr.cap;have hbk:wr.heap[b]?=w.heap[b]?:=HM.out.block b hbw (fun f=>(HFF.out b f).2 hob);have q0:=bK hbk (hcv 0 _ rfl);have q1:=ai hbk (hcv 1 _ rfl);have q2:=ai hbk (hcv 2 _ rfl);have q3:=ai hbk (hcv 3 _ rfl);have q4:=ai hbk (hcv 4 _ rfl);have q5:=ai hbk (hcv 5 _ rfl);have HV:=aa hv;clear hv;have HSR:=aa hsr;clear hcv hul hbk htr hsr hvz;have HBv:=aa (heap_alloc_new wr (.cells #[.string v.name,.int .u64 v.id,.bool v.hidden,.bool v.ro,.slice tp v.tags.length tc,.slice sp v.Gf.length sc] 55));have hA:=ae wr (.cells #[.string v.name,.int .u64 v.id,.bool v.hidden,.bool v.ro,.slice tp v.tags.length tc,.slice sp v.Gf.length sc] 55);have HM1:=aa (HM.out.trans (Mod.of_below (F:=fun _=>False) hA) (fun _ f=>f.elim));have HI1:=aa (HII.out _ _ _ HI.out hA);have hwz:=HM.out.size;have HLv:=aa (lt_of_block HBv.out);clear hA;go_wp2;clear q0 q1 q2 q3 q4 q5;generalize hW1:World.alloc wr _=W1 at *;generalize hBv:wr.heap.size=Bv at *;clear hW1 hBv HI HM
   go_loopw [24] (fun i wi=>∃ j:Nat,j≤v.Gf.length∧i=.int .i64 j∧Mod F w wi∧I (bW g.F9 k j v) wi∧bD E [] (aA g.F9)=bD E (bW g.F9 k j v) (fV g.F9 k j v)∧wi.heap[Bv]?=some (.cells #[.string v.name,.int .u64 v.id,.bool v.hidden,.bool v.ro,.slice tp v.tags.length tc,.slice sp v.Gf.length sc] 55 (0,0))) (fun i _=>v.Gf.length - (intOf i).toNat)
   case atStart=>exact ⟨0,Nat.zero_le _,rfl,HM1.out,by rw [eQ];exact HI1.out,by rw [HE.out,jK g.F9 k v HV.out,eQ],HBv.out⟩
   case round =>
    clear HM1 HI1 HE HBv HLv;obtain ⟨j,hj,rfl,hm,hi,he,hbv⟩:=hrel;have HM:=aa hm;clear hm;have HI:=aa hi;clear hi;have HE:=aa he;clear he;have HBv:=aa hbv;clear hbv
    by_cases hlt2:j<v.Gf.length
    ·obtain ⟨s,hs⟩:=aj v.Gf j hlt2
     obtain ⟨b2,off2,us2,hsp,hob2,hbw2,hul2,hvs2,hcv2⟩:=HSR.out.elem hs;subst hsp;have HSV:=aa hvs2;obtain ⟨av,stv,rfl,har,hst⟩:=hvs2;obtain ⟨ap,ac,rfl,_,_⟩:=har.cap;obtain ⟨stp,stc,rfl,_,_⟩:=hst.cap;have hbk2:wr.heap[b2]?=w.heap[b2]?:=HM.out.block b2 hbw2 (fun f=>(HFF.out b2 f).2 hob2);have q0:=bK hbk2 (hcv2 0 _ rfl);have q1:=ai hbk2 (hcv2 1 _ rfl);have q2:=ai hbk2 (hcv2 2 _ rfl);have q3:=ai hbk2 (hcv2 3 _ rfl);have q4:=ai hbk2 (hcv2 4 _ rfl);have q5:=ai hbk2 (hcv2 5 _ rfl);have q6:=ai hbk2 (hcv2 6 _ rfl);have q7:=ai hbk2 (hcv2 7 _ rfl);have q8:=ai hbk2 (hcv2 8 _ rfl);have q9:=ai hbk2 (hcv2 9 _ rfl);have q10:=ai hbk2 (hcv2 10 _ rfl);have HS:=aa hs;clear hs
     have vL:∀ (i:Nat) (z:Value),[.string v.name,.int .u64 v.id,.bool v.hidden,.bool v.ro,.slice tp v.tags.length tc,.slice (some ⟨b2,off2,none⟩) v.Gf.length sc][i]?=some z→wr.cell? ⟨Bv,i,none⟩=some z:=fun i z hz=>by
      simp only [World.cell?,HBv.out];simpa using hz
     have v0:=vL 0 _ rfl;have v1:=vL 1 _ rfl;have v2:=vL 2 _ rfl;have v3:=vL 3 _ rfl;have v4:=vL 4 _ rfl;have v5:=vL 5 _ rfl;have hA:=ae wr (.cells #[.int .i64 s.start,.int .i64 s.length,.int .i64 s.kind,.slice ap s.Ga.length ac,.int .i64 s.chunk,.slice stp s.stale.length stc,.string s.log,.string s.pool,.int .i64 s.device,.int .i64 s.mode,.int .i64 s.done] 79);have HM2:=aa (HM.out.trans (Mod.of_below (F:=fun _=>False) hA) (fun _ f=>f.elim));have HI2:=aa (HII.out _ _ _ HI.out hA);have hBz:=lt_of_block HBv.out;have HB2:=aa ((hA.block _ hBz).trans HBv.out);clear hcv2 hul2 hbk2 har hst vL hA
     go_wp2_with fail
     clear q0 q1 q2 q3 q4 q5 q6 q7 q8 q9 q10 v0 v1 v2 v3 v4 v5;generalize hW2:World.alloc wr _=W2 at *;clear hW2;have hCall:=HCC.out (bW g.F9 k j v) v s (fV g.F9 k (j+1) v) (jB g.F9 k j v s HV.out HS.out) W2 _ _ HM2.out HI2.out (aN.moves.mv (Mv.mod HM2.out (fun b f=>(HFF.out b f).2)) HVV.out) (bC.moves.mv (Mv.mod HM2.out (fun b f=>(HFF.out b f).2)) HSV.out);refine hCall.mono ?_;clear hCall;rintro e w3 ⟨rfl,hm3,hi3⟩;have HI3:=aa hi3;clear hi3;have HM3:=aa (HM2.out.trans hm3 (fun k f=>.inl f));have HB3:Hid (w3.heap[Bv]?=_):=aa ((hm3.block _ (lt_of_block HB2.out) (fun f=>by have:=(HFF.out Bv f).1;omega)).trans HB2.out)
     have HE3:Hid (bD E [] (aA g.F9)=if E (bW g.F9 k j v) v s=0 then bD E (bW g.F9 k (j+1) v) (fV g.F9 k (j+1) v) else (v.name,E (bW g.F9 k j v) v s)):=aa (by
      rw [HE.out,ku g.F9 k j v s HS.out,fG g.F9 k j v s HS.out]
      rfl)
     have HI3':Hid (E (bW g.F9 k j v) v s=0→I (bW g.F9 k (j+1) v) w3):=aa (fun h=>by rw [fG g.F9 k j v s HS.out];exact HI3.out h);have n0:w3.cell? ⟨Bv,0,none⟩=some (.string v.name):=by simp [World.cell?,HB3.out]
     clear hm3 HI3 HM2 HI2 HB2 HI HE;generalize E (bW g.F9 k j v) v s=x at *
     by_cases hx:x=0
     ·have hxb:(x != 0)=false:=by simpa using hx
      have HX:=aa hx;clear hx;go_wp2;go_roundw
      case rel=>exact ⟨j+1,by omega,by go_num,HM3.out,HI3'.out HX.out,by rw [HE3.out,if_pos HX.out],HB3.out⟩
      case measure=>simp [intOf];omega
     ·have hxb:(x != 0)=true:=by simpa using hx
      have HX:=aa hx;clear hx;go_wp2;go_ret2;exact ⟨by rw [HE3.out,if_neg HX.out];rfl,HM3.out,fun h=>absurd (by rw [HE3.out,if_neg HX.out] at h;exact h) HX.out⟩
    ·obtain rfl:j=v.Gf.length:=by omega
     have HE3:Hid (bD E [] (aA g.F9)=bD E (aA (g.F9.take (k+1))) (aA (g.F9.drop (k+1)))):=aa (by rw [HE.out,fJ g.F9 k v HV.out,lh]);have HI3:Hid (I (aA (g.F9.take (k+1))) wr):=aa (by rw [← fJ g.F9 k v HV.out];exact HI.out);clear HI HE;go_wp2;go_roundw
     case rel=>exact ⟨k+1,by omega,by go_num,HM.out,HI3.out,HE3.out⟩
     case measure=>simp [intOf];omega
  ·obtain rfl:k=g.F9.length:=by omega
   have HR:Hid (bD E [] (aA g.F9)=(⟨#[]⟩,0)):=aa (by rw [HE.out,List.drop_length];rfl);have HIF:Hid (I (aA g.F9) wr):=aa (by have:=HI.out;rwa [List.take_length] at this);go_wp2;go_ret2;exact ⟨by rw [HR.out];rfl,HM.out,fun _=>HIF.out⟩
theorem DD {ok F:Nat→Prop}(g:af)(a:bN)(bc:Nat)(p0 p1:Value)(E:List (ay × aB)→ay→aB→Int)(I:List (ay × aB)→World→Prop)(w:World)(hck:gY w bc g a)(hg:dN ok w g a)(hz:GSz g)
  (hF:∀ k,F k→k<w.heap.size∧¬ ok k) (hI:∀ pre W W',I pre W→Below W.heap.size W W'→I pre W') (h0:I [] w) (hC:zY ok F 150 [p0,p1] g.F9 E I w) :
  Calls Tryz.prog 141 #[.pointer (some ⟨bc,0,none⟩),.func (.func 150) #[] #[p0,p1]] w (Aa F g.F9 E I w):=by
 have hbcl:=hck.lt;obtain ⟨sm,hblk,_⟩:=hck;have HCB:Hid (bX w bc sm g a):=aa hblk;clear hblk;obtain ⟨g0,g1,g2,g3,g4,g5,g6,g7,g8⟩:=bX.cells HCB.out;have HG:=aa hg.F9;have HZ:=aa hz;have hvl:=hz.vl;obtain ⟨vp,vc,hvpc,hvc1,hvc2⟩:=hg.F9.cap;have HFF:=aa hF;clear hF;have HII:=aa hI;clear hI;have HCC:=aa hC;clear hC;have H0:=aa h0;clear h0 hg hz;injection hvpc with e1 e2 e3
 obtain ⟨gtp,gtc,gdp,gdc,gvp,gvc,ghp,ghc⟩:=a;dsimp only at e1 e2 e3 g0 g1 g2 g3 g4 g5 g6 g7 g8;subst e1;subst e3;clear e2;go_enter Tryz.func141,Tryz.ntmps141;go_wp2;clear g0 g1 g2 g3 g4 g5 g6 g7 g8
 go_loopw [17] (fun i wr=>∃ k:Nat,k≤g.F9.length∧i=.int .i64 k∧Mod F w wr∧I (aA (g.F9.take k)) wr∧bD E [] (aA g.F9)=bD E (aA (g.F9.take k)) (aA (g.F9.drop k))) (fun i _=>g.F9.length - (intOf i).toNat)
 case atStart=>exact ⟨0,Nat.zero_le _,rfl,Mod.refl _ _,H0.out,rfl⟩
 case round =>
  clear H0;obtain ⟨k,hk,rfl,hm,hi,he⟩:=hrel;have HM:=aa hm;clear hm;have HI:=aa hi;clear hi;have HE:=aa he;clear he
  by_cases hlt:k<g.F9.length
  ·obtain ⟨v,hv⟩:=aj g.F9 k hlt
   obtain ⟨b,off,us,rfl,hob,hbw,hul,hvs,hcv⟩:=HG.out.elem hv;have HVV:=aa hvs;have hvz:=HZ.out.vz v (List.mem_of_getElem? hv);have hsl:=hvz.Gf;obtain ⟨tv,sv,rfl,htr,hsr⟩:=hvs;obtain ⟨tp,tc,rfl,_,_⟩:=htr.cap;obtain ⟨sp,sc,rfl,hsc1,hsc2⟩:=hsr.cap;have hbk:wr.heap[b]?=w.heap[b]?:=HM.out.block b hbw (fun f=>(HFF.out b f).2 hob);have q0:=bK hbk (hcv 0 _ rfl);have q1:=ai hbk (hcv 1 _ rfl);have q2:=ai hbk (hcv 2 _ rfl);have q3:=ai hbk (hcv 3 _ rfl);have q4:=ai hbk (hcv 4 _ rfl);have q5:=ai hbk (hcv 5 _ rfl);have HV:=aa hv;clear hv;have HSR:=aa hsr;clear hcv hul hbk htr hsr hvz;have HBv:=aa (heap_alloc_new wr (.cells #[.string v.name,.int .u64 v.id,.bool v.hidden,.bool v.ro,.slice tp v.tags.length tc,.slice sp v.Gf.length sc] 55));have hA:=ae wr (.cells #[.string v.name,.int .u64 v.id,.bool v.hidden,.bool v.ro,.slice tp v.tags.length tc,.slice sp v.Gf.length sc] 55);have HM1:=aa (HM.out.trans (Mod.of_below (F:=fun _=>False) hA) (fun _ f=>f.elim));have HI1:=aa (HII.out _ _ _ HI.out hA);have hwz:=HM.out.size;have HLv:=aa (lt_of_block HBv.out);clear hA;go_wp2;clear q0 q1 q2 q3 q4 q5;generalize hW1:World.alloc wr _=W1 at *;generalize hBv:wr.heap.size=Bv at *;clear hW1 hBv HI HM
   go_loopw [24] (fun i wi=>∃ j:Nat,j≤v.Gf.length∧i=.int .i64 j∧Mod F w wi∧I (bW g.F9 k j v) wi∧bD E [] (aA g.F9)=bD E (bW g.F9 k j v) (fV g.F9 k j v)∧wi.heap[Bv]?=some (.cells #[.string v.name,.int .u64 v.id,.bool v.hidden,.bool v.ro,.slice tp v.tags.length tc,.slice sp v.Gf.length sc] 55 (0,0))) (fun i _=>v.Gf.length - (intOf i).toNat)
   case atStart=>exact ⟨0,Nat.zero_le _,rfl,HM1.out,by rw [eQ];exact HI1.out,by rw [HE.out,jK g.F9 k v HV.out,eQ],HBv.out⟩
   case round =>
    clear HM1 HI1 HE HBv HLv;obtain ⟨j,hj,rfl,hm,hi,he,hbv⟩:=hrel;have HM:=aa hm;clear hm;have HI:=aa hi;clear hi;have HE:=aa he;clear he;have HBv:=aa hbv;clear hbv
    by_cases hlt2:j<v.Gf.length
    ·obtain ⟨s,hs⟩:=aj v.Gf j hlt2
     obtain ⟨b2,off2,us2,hsp,hob2,hbw2,hul2,hvs2,hcv2⟩:=HSR.out.elem hs;subst hsp;have HSV:=aa hvs2;obtain ⟨av,stv,rfl,har,hst⟩:=hvs2;obtain ⟨ap,ac,rfl,_,_⟩:=har.cap;obtain ⟨stp,stc,rfl,_,_⟩:=hst.cap;have hbk2:wr.heap[b2]?=w.heap[b2]?:=HM.out.block b2 hbw2 (fun f=>(HFF.out b2 f).2 hob2);have q0:=bK hbk2 (hcv2 0 _ rfl);have q1:=ai hbk2 (hcv2 1 _ rfl);have q2:=ai hbk2 (hcv2 2 _ rfl);have q3:=ai hbk2 (hcv2 3 _ rfl);have q4:=ai hbk2 (hcv2 4 _ rfl);have q5:=ai hbk2 (hcv2 5 _ rfl);have q6:=ai hbk2 (hcv2 6 _ rfl);have q7:=ai hbk2 (hcv2 7 _ rfl);have q8:=ai hbk2 (hcv2 8 _ rfl);have q9:=ai hbk2 (hcv2 9 _ rfl);have q10:=ai hbk2 (hcv2 10 _ rfl);have HS:=aa hs;clear hs
     have vL:∀ (i:Nat) (z:Value),[.string v.name,.int .u64 v.id,.bool v.hidden,.bool v.ro,.slice tp v.tags.length tc,.slice (some ⟨b2,off2,none⟩) v.Gf.length sc][i]?=some z→wr.cell? ⟨Bv,i,none⟩=some z:=fun i z hz=>by
      simp only [World.cell?,HBv.out];simpa using hz
     have v0:=vL 0 _ rfl;have v1:=vL 1 _ rfl;have v2:=vL 2 _ rfl;have v3:=vL 3 _ rfl;have v4:=vL 4 _ rfl;have v5:=vL 5 _ rfl;have hA:=ae wr (.cells #[.int .i64 s.start,.int .i64 s.length,.int .i64 s.kind,.slice ap s.Ga.length ac,.int .i64 s.chunk,.slice stp s.stale.length stc,.string s.log,.string s.pool,.int .i64 s.device,.int .i64 s.mode,.int .i64 s.done] 79);have HM2:=aa (HM.out.trans (Mod.of_below (F:=fun _=>False) hA) (fun _ f=>f.elim));have HI2:=aa (HII.out _ _ _ HI.out hA);have hBz:=lt_of_block HBv.out;have HB2:=aa ((hA.block _ hBz).trans HBv.out);clear hcv2 hul2 hbk2 har hst vL hA
     go_wp2_with fail
     clear q0 q1 q2 q3 q4 q5 q6 q7 q8 q9 q10 v0 v1 v2 v3 v4 v5;generalize hW2:World.alloc wr _=W2 at *;clear hW2;have hCall:=HCC.out (bW g.F9 k j v) v s (fV g.F9 k (j+1) v) (jB g.F9 k j v s HV.out HS.out) W2 _ _ HM2.out HI2.out (aN.moves.mv (Mv.mod HM2.out (fun b f=>(HFF.out b f).2)) HVV.out) (bC.moves.mv (Mv.mod HM2.out (fun b f=>(HFF.out b f).2)) HSV.out);refine hCall.mono ?_;clear hCall;rintro e w3 ⟨rfl,hm3,hi3⟩;have HI3:=aa hi3;clear hi3;have HM3:=aa (HM2.out.trans hm3 (fun k f=>.inl f));have HB3:Hid (w3.heap[Bv]?=_):=aa ((hm3.block _ (lt_of_block HB2.out) (fun f=>by have:=(HFF.out Bv f).1;omega)).trans HB2.out)
     have HE3:Hid (bD E [] (aA g.F9)=if E (bW g.F9 k j v) v s=0 then bD E (bW g.F9 k (j+1) v) (fV g.F9 k (j+1) v) else (v.name,E (bW g.F9 k j v) v s)):=aa (by
      rw [HE.out,ku g.F9 k j v s HS.out,fG g.F9 k j v s HS.out]
      rfl)
     have HI3':Hid (E (bW g.F9 k j v) v s=0→I (bW g.F9 k (j+1) v) w3):=aa (fun h=>by rw [fG g.F9 k j v s HS.out];exact HI3.out h);have n0:w3.cell? ⟨Bv,0,none⟩=some (.string v.name):=by simp [World.cell?,HB3.out]
     clear hm3 HI3 HM2 HI2 HB2 HI HE;generalize E (bW g.F9 k j v) v s=x at *
     by_cases hx:x=0
     ·have hxb:(x != 0)=false:=by simpa using hx
      have HX:=aa hx;clear hx;go_wp2;go_roundw
      case rel=>exact ⟨j+1,by omega,by go_num,HM3.out,HI3'.out HX.out,by rw [HE3.out,if_pos HX.out],HB3.out⟩
      case measure=>simp [intOf];omega
     ·have hxb:(x != 0)=true:=by simpa using hx
      have HX:=aa hx;clear hx;go_wp2;go_ret2;exact ⟨by rw [HE3.out,if_neg HX.out];rfl,HM3.out,fun h=>absurd (by rw [HE3.out,if_neg HX.out] at h;exact h) HX.out⟩
    ·obtain rfl:j=v.Gf.length:=by omega
     have HE3:Hid (bD E [] (aA g.F9)=bD E (aA (g.F9.take (k+1))) (aA (g.F9.drop (k+1)))):=aa (by rw [HE.out,fJ g.F9 k v HV.out,lh]);have HI3:Hid (I (aA (g.F9.take (k+1))) wr):=aa (by rw [← fJ g.F9 k v HV.out];exact HI.out);clear HI HE;go_wp2;go_roundw
     case rel=>exact ⟨k+1,by omega,by go_num,HM.out,HI3.out,HE3.out⟩
     case measure=>simp [intOf];omega
  ·obtain rfl:k=g.F9.length:=by omega
   have HR:Hid (bD E [] (aA g.F9)=(⟨#[]⟩,0)):=aa (by rw [HE.out,List.drop_length];rfl);have HIF:Hid (I (aA g.F9) wr):=aa (by have:=HI.out;rwa [List.take_length] at this);go_wp2;go_ret2;exact ⟨by rw [HR.out];rfl,HM.out,fun _=>HIF.out⟩
theorem Cw {ok F:Nat→Prop}(g:af)(a:bN)(bc:Nat)(p0:Value)(E:List (ay × aB)→ay→aB→Int)(I:List (ay × aB)→World→Prop)(w:World)(hck:gY w bc g a)(hg:dN ok w g a)(hz:GSz g)
  (hF:∀ k,F k→k<w.heap.size∧¬ ok k) (hI:∀ pre W W',I pre W→Below W.heap.size W W'→I pre W') (h0:I [] w) (hC:zY ok F 152 [p0] g.F9 E I w) :
  Calls Tryz.prog 141 #[.pointer (some ⟨bc,0,none⟩),.func (.func 152) #[] #[p0]] w (Aa F g.F9 E I w):=by
 have hbcl:=hck.lt;obtain ⟨sm,hblk,_⟩:=hck;have HCB:Hid (bX w bc sm g a):=aa hblk;clear hblk;obtain ⟨g0,g1,g2,g3,g4,g5,g6,g7,g8⟩:=bX.cells HCB.out;have HG:=aa hg.F9;have HZ:=aa hz;have hvl:=hz.vl;obtain ⟨vp,vc,hvpc,hvc1,hvc2⟩:=hg.F9.cap;have HFF:=aa hF;clear hF;have HII:=aa hI;clear hI;have HCC:=aa hC;clear hC;have H0:=aa h0;clear h0 hg hz;injection hvpc with e1 e2 e3
 obtain ⟨gtp,gtc,gdp,gdc,gvp,gvc,ghp,ghc⟩:=a;dsimp only at e1 e2 e3 g0 g1 g2 g3 g4 g5 g6 g7 g8;subst e1;subst e3;clear e2;go_enter Tryz.func141,Tryz.ntmps141;go_wp2;clear g0 g1 g2 g3 g4 g5 g6 g7 g8
 go_loopw [17] (fun i wr=>∃ k:Nat,k≤g.F9.length∧i=.int .i64 k∧Mod F w wr∧I (aA (g.F9.take k)) wr∧bD E [] (aA g.F9)=bD E (aA (g.F9.take k)) (aA (g.F9.drop k))) (fun i _=>g.F9.length - (intOf i).toNat)
 case atStart=>exact ⟨0,Nat.zero_le _,rfl,Mod.refl _ _,H0.out,rfl⟩
 case round =>
  clear H0;obtain ⟨k,hk,rfl,hm,hi,he⟩:=hrel;have HM:=aa hm;clear hm;have HI:=aa hi;clear hi;have HE:=aa he;clear he
  by_cases hlt:k<g.F9.length
  ·obtain ⟨v,hv⟩:=aj g.F9 k hlt
   obtain ⟨b,off,us,rfl,hob,hbw,hul,hvs,hcv⟩:=HG.out.elem hv;have HVV:=aa hvs;have hvz:=HZ.out.vz v (List.mem_of_getElem? hv);have hsl:=hvz.Gf;obtain ⟨tv,sv,rfl,htr,hsr⟩:=hvs;obtain ⟨tp,tc,rfl,_,_⟩:=htr.cap;obtain ⟨sp,sc,rfl,hsc1,hsc2⟩:=hsr.cap;have hbk:wr.heap[b]?=w.heap[b]?:=HM.out.block b hbw (fun f=>(HFF.out b f).2 hob);have q0:=bK hbk (hcv 0 _ rfl);have q1:=ai hbk (hcv 1 _ rfl);have q2:=ai hbk (hcv 2 _ rfl);have q3:=ai hbk (hcv 3 _ rfl);have q4:=ai hbk (hcv 4 _ rfl);have q5:=ai hbk (hcv 5 _ rfl);have HV:=aa hv;clear hv;have HSR:=aa hsr;clear hcv hul hbk htr hsr hvz;have HBv:=aa (heap_alloc_new wr (.cells #[.string v.name,.int .u64 v.id,.bool v.hidden,.bool v.ro,.slice tp v.tags.length tc,.slice sp v.Gf.length sc] 55));have hA:=ae wr (.cells #[.string v.name,.int .u64 v.id,.bool v.hidden,.bool v.ro,.slice tp v.tags.length tc,.slice sp v.Gf.length sc] 55);have HM1:=aa (HM.out.trans (Mod.of_below (F:=fun _=>False) hA) (fun _ f=>f.elim));have HI1:=aa (HII.out _ _ _ HI.out hA);have hwz:=HM.out.size;have HLv:=aa (lt_of_block HBv.out);clear hA;go_wp2;clear q0 q1 q2 q3 q4 q5;generalize hW1:World.alloc wr _=W1 at *;generalize hBv:wr.heap.size=Bv at *;clear hW1 hBv HI HM
   go_loopw [24] (fun i wi=>∃ j:Nat,j≤v.Gf.length∧i=.int .i64 j∧Mod F w wi∧I (bW g.F9 k j v) wi∧bD E [] (aA g.F9)=bD E (bW g.F9 k j v) (fV g.F9 k j v)∧wi.heap[Bv]?=some (.cells #[.string v.name,.int .u64 v.id,.bool v.hidden,.bool v.ro,.slice tp v.tags.length tc,.slice sp v.Gf.length sc] 55 (0,0))) (fun i _=>v.Gf.length - (intOf i).toNat)
   case atStart=>exact ⟨0,Nat.zero_le _,rfl,HM1.out,by rw [eQ];exact HI1.out,by rw [HE.out,jK g.F9 k v HV.out,eQ],HBv.out⟩
   case round =>
    clear HM1 HI1 HE HBv HLv;obtain ⟨j,hj,rfl,hm,hi,he,hbv⟩:=hrel;have HM:=aa hm;clear hm;have HI:=aa hi;clear hi;have HE:=aa he;clear he;have HBv:=aa hbv;clear hbv
    by_cases hlt2:j<v.Gf.length
    ·obtain ⟨s,hs⟩:=aj v.Gf j hlt2
     obtain ⟨b2,off2,us2,hsp,hob2,hbw2,hul2,hvs2,hcv2⟩:=HSR.out.elem hs;subst hsp;have HSV:=aa hvs2;obtain ⟨av,stv,rfl,har,hst⟩:=hvs2;obtain ⟨ap,ac,rfl,_,_⟩:=har.cap;obtain ⟨stp,stc,rfl,_,_⟩:=hst.cap;have hbk2:wr.heap[b2]?=w.heap[b2]?:=HM.out.block b2 hbw2 (fun f=>(HFF.out b2 f).2 hob2);have q0:=bK hbk2 (hcv2 0 _ rfl);have q1:=ai hbk2 (hcv2 1 _ rfl);have q2:=ai hbk2 (hcv2 2 _ rfl);have q3:=ai hbk2 (hcv2 3 _ rfl);have q4:=ai hbk2 (hcv2 4 _ rfl);have q5:=ai hbk2 (hcv2 5 _ rfl);have q6:=ai hbk2 (hcv2 6 _ rfl);have q7:=ai hbk2 (hcv2 7 _ rfl);have q8:=ai hbk2 (hcv2 8 _ rfl);have q9:=ai hbk2 (hcv2 9 _ rfl);have q10:=ai hbk2 (hcv2 10 _ rfl);have HS:=aa hs;clear hs
     have vL:∀ (i:Nat) (z:Value),[.string v.name,.int .u64 v.id,.bool v.hidden,.bool v.ro,.slice tp v.tags.length tc,.slice (some ⟨b2,off2,none⟩) v.Gf.length sc][i]?=some z→wr.cell? ⟨Bv,i,none⟩=some z:=fun i z hz=>by
      simp only [World.cell?,HBv.out];simpa using hz
     have v0:=vL 0 _ rfl;have v1:=vL 1 _ rfl;have v2:=vL 2 _ rfl;have v3:=vL 3 _ rfl;have v4:=vL 4 _ rfl;have v5:=vL 5 _ rfl;have hA:=ae wr (.cells #[.int .i64 s.start,.int .i64 s.length,.int .i64 s.kind,.slice ap s.Ga.length ac,.int .i64 s.chunk,.slice stp s.stale.length stc,.string s.log,.string s.pool,.int .i64 s.device,.int .i64 s.mode,.int .i64 s.done] 79);have HM2:=aa (HM.out.trans (Mod.of_below (F:=fun _=>False) hA) (fun _ f=>f.elim));have HI2:=aa (HII.out _ _ _ HI.out hA);have hBz:=lt_of_block HBv.out;have HB2:=aa ((hA.block _ hBz).trans HBv.out);clear hcv2 hul2 hbk2 har hst vL hA
     go_wp2_with fail
     clear q0 q1 q2 q3 q4 q5 q6 q7 q8 q9 q10 v0 v1 v2 v3 v4 v5;generalize hW2:World.alloc wr _=W2 at *;clear hW2;have hCall:=HCC.out (bW g.F9 k j v) v s (fV g.F9 k (j+1) v) (jB g.F9 k j v s HV.out HS.out) W2 _ _ HM2.out HI2.out (aN.moves.mv (Mv.mod HM2.out (fun b f=>(HFF.out b f).2)) HVV.out) (bC.moves.mv (Mv.mod HM2.out (fun b f=>(HFF.out b f).2)) HSV.out);refine hCall.mono ?_;clear hCall;rintro e w3 ⟨rfl,hm3,hi3⟩;have HI3:=aa hi3;clear hi3;have HM3:=aa (HM2.out.trans hm3 (fun k f=>.inl f));have HB3:Hid (w3.heap[Bv]?=_):=aa ((hm3.block _ (lt_of_block HB2.out) (fun f=>by have:=(HFF.out Bv f).1;omega)).trans HB2.out)
     have HE3:Hid (bD E [] (aA g.F9)=if E (bW g.F9 k j v) v s=0 then bD E (bW g.F9 k (j+1) v) (fV g.F9 k (j+1) v) else (v.name,E (bW g.F9 k j v) v s)):=aa (by
      rw [HE.out,ku g.F9 k j v s HS.out,fG g.F9 k j v s HS.out]
      rfl)
     have HI3':Hid (E (bW g.F9 k j v) v s=0→I (bW g.F9 k (j+1) v) w3):=aa (fun h=>by rw [fG g.F9 k j v s HS.out];exact HI3.out h);have n0:w3.cell? ⟨Bv,0,none⟩=some (.string v.name):=by simp [World.cell?,HB3.out]
     clear hm3 HI3 HM2 HI2 HB2 HI HE;generalize E (bW g.F9 k j v) v s=x at *
     by_cases hx:x=0
     ·have hxb:(x != 0)=false:=by simpa using hx
      have HX:=aa hx;clear hx;go_wp2;go_roundw
      case rel=>exact ⟨j+1,by omega,by go_num,HM3.out,HI3'.out HX.out,by rw [HE3.out,if_pos HX.out],HB3.out⟩
      case measure=>simp [intOf];omega
     ·have hxb:(x != 0)=true:=by simpa using hx
      have HX:=aa hx;clear hx;go_wp2;go_ret2;exact ⟨by rw [HE3.out,if_neg HX.out];rfl,HM3.out,fun h=>absurd (by rw [HE3.out,if_neg HX.out] at h;exact h) HX.out⟩
    ·obtain rfl:j=v.Gf.length:=by omega
     have HE3:Hid (bD E [] (aA g.F9)=bD E (aA (g.F9.take (k+1))) (aA (g.F9.drop (k+1)))):=aa (by rw [HE.out,fJ g.F9 k v HV.out,lh]);have HI3:Hid (I (aA (g.F9.take (k+1))) wr):=aa (by rw [← fJ g.F9 k v HV.out];exact HI.out);clear HI HE;go_wp2;go_roundw
     case rel=>exact ⟨k+1,by omega,by go_num,HM.out,HI3.out,HE3.out⟩
     case measure=>simp [intOf];omega
  ·obtain rfl:k=g.F9.length:=by omega
   have HR:Hid (bD E [] (aA g.F9)=(⟨#[]⟩,0)):=aa (by rw [HE.out,List.drop_length];rfl);have HIF:Hid (I (aA g.F9) wr):=aa (by have:=HI.out;rwa [List.take_length] at this);go_wp2;go_ret2;exact ⟨by rw [HR.out];rfl,HM.out,fun _=>HIF.out⟩
theorem Ci {ok F:Nat→Prop}(g:af)(a:bN)(bc:Nat)(p0:Value)(E:List (ay × aB)→ay→aB→Int)(I:List (ay × aB)→World→Prop)(w:World)(hck:gY w bc g a)(hg:dN ok w g a)(hz:GSz g)
  (hF:∀ k,F k→k<w.heap.size∧¬ ok k) (hI:∀ pre W W',I pre W→Below W.heap.size W W'→I pre W') (h0:I [] w) (hC:zY ok F 154 [p0] g.F9 E I w) :
  Calls Tryz.prog 141 #[.pointer (some ⟨bc,0,none⟩),.func (.func 154) #[] #[p0]] w (Aa F g.F9 E I w):=by
 have hbcl:=hck.lt;obtain ⟨sm,hblk,_⟩:=hck;have HCB:Hid (bX w bc sm g a):=aa hblk;clear hblk;obtain ⟨g0,g1,g2,g3,g4,g5,g6,g7,g8⟩:=bX.cells HCB.out;have HG:=aa hg.F9;have HZ:=aa hz;have hvl:=hz.vl;obtain ⟨vp,vc,hvpc,hvc1,hvc2⟩:=hg.F9.cap;have HFF:=aa hF;clear hF;have HII:=aa hI;clear hI;have HCC:=aa hC;clear hC;have H0:=aa h0;clear h0 hg hz;injection hvpc with e1 e2 e3
 obtain ⟨gtp,gtc,gdp,gdc,gvp,gvc,ghp,ghc⟩:=a;dsimp only at e1 e2 e3 g0 g1 g2 g3 g4 g5 g6 g7 g8;subst e1;subst e3;clear e2;go_enter Tryz.func141,Tryz.ntmps141;go_wp2;clear g0 g1 g2 g3 g4 g5 g6 g7 g8
 go_loopw [17] (fun i wr=>∃ k:Nat,k≤g.F9.length∧i=.int .i64 k∧Mod F w wr∧I (aA (g.F9.take k)) wr∧bD E [] (aA g.F9)=bD E (aA (g.F9.take k)) (aA (g.F9.drop k))) (fun i _=>g.F9.length - (intOf i).toNat)
 case atStart=>exact ⟨0,Nat.zero_le _,rfl,Mod.refl _ _,H0.out,rfl⟩
 case round =>
  clear H0;obtain ⟨k,hk,rfl,hm,hi,he⟩:=hrel;have HM:=aa hm;clear hm;have HI:=aa hi;clear hi;have HE:=aa he;clear he
  by_cases hlt:k<g.F9.length
  ·obtain ⟨v,hv⟩:=aj g.F9 k hlt
   obtain ⟨b,off,us,rfl,hob,hbw,hul,hvs,hcv⟩:=HG.out.elem hv;have HVV:=aa hvs;have hvz:=HZ.out.vz v (List.mem_of_getElem? hv);have hsl:=hvz.Gf;obtain ⟨tv,sv,rfl,htr,hsr⟩:=hvs;obtain ⟨tp,tc,rfl,_,_⟩:=htr.cap;obtain ⟨sp,sc,rfl,hsc1,hsc2⟩:=hsr.cap;have hbk:wr.heap[b]?=w.heap[b]?:=HM.out.block b hbw (fun f=>(HFF.out b f).2 hob);have q0:=bK hbk (hcv 0 _ rfl);have q1:=ai hbk (hcv 1 _ rfl);have q2:=ai hbk (hcv 2 _ rfl);have q3:=ai hbk (hcv 3 _ rfl);have q4:=ai hbk (hcv 4 _ rfl);have q5:=ai hbk (hcv 5 _ rfl);have HV:=aa hv;clear hv;have HSR:=aa hsr;clear hcv hul hbk htr hsr hvz;have HBv:=aa (heap_alloc_new wr (.cells #[.string v.name,.int .u64 v.id,.bool v.hidden,.bool v.ro,.slice tp v.tags.length tc,.slice sp v.Gf.length sc] 55));have hA:=ae wr (.cells #[.string v.name,.int .u64 v.id,.bool v.hidden,.bool v.ro,.slice tp v.tags.length tc,.slice sp v.Gf.length sc] 55);have HM1:=aa (HM.out.trans (Mod.of_below (F:=fun _=>False) hA) (fun _ f=>f.elim));have HI1:=aa (HII.out _ _ _ HI.out hA);have hwz:=HM.out.size;have HLv:=aa (lt_of_block HBv.out);clear hA;go_wp2;clear q0 q1 q2 q3 q4 q5;generalize hW1:World.alloc wr _=W1 at *;generalize hBv:wr.heap.size=Bv at *;clear hW1 hBv HI HM
   go_loopw [24] (fun i wi=>∃ j:Nat,j≤v.Gf.length∧i=.int .i64 j∧Mod F w wi∧I (bW g.F9 k j v) wi∧bD E [] (aA g.F9)=bD E (bW g.F9 k j v) (fV g.F9 k j v)∧wi.heap[Bv]?=some (.cells #[.string v.name,.int .u64 v.id,.bool v.hidden,.bool v.ro,.slice tp v.tags.length tc,.slice sp v.Gf.length sc] 55 (0,0))) (fun i _=>v.Gf.length - (intOf i).toNat)
   case atStart=>exact ⟨0,Nat.zero_le _,rfl,HM1.out,by rw [eQ];exact HI1.out,by rw [HE.out,jK g.F9 k v HV.out,eQ],HBv.out⟩
   case round =>
    clear HM1 HI1 HE HBv HLv;obtain ⟨j,hj,rfl,hm,hi,he,hbv⟩:=hrel;have HM:=aa hm;clear hm;have HI:=aa hi;clear hi;have HE:=aa he;clear he;have HBv:=aa hbv;clear hbv
    by_cases hlt2:j<v.Gf.length
    ·obtain ⟨s,hs⟩:=aj v.Gf j hlt2
     obtain ⟨b2,off2,us2,hsp,hob2,hbw2,hul2,hvs2,hcv2⟩:=HSR.out.elem hs;subst hsp;have HSV:=aa hvs2;obtain ⟨av,stv,rfl,har,hst⟩:=hvs2;obtain ⟨ap,ac,rfl,_,_⟩:=har.cap;obtain ⟨stp,stc,rfl,_,_⟩:=hst.cap;have hbk2:wr.heap[b2]?=w.heap[b2]?:=HM.out.block b2 hbw2 (fun f=>(HFF.out b2 f).2 hob2);have q0:=bK hbk2 (hcv2 0 _ rfl);have q1:=ai hbk2 (hcv2 1 _ rfl);have q2:=ai hbk2 (hcv2 2 _ rfl);have q3:=ai hbk2 (hcv2 3 _ rfl);have q4:=ai hbk2 (hcv2 4 _ rfl);have q5:=ai hbk2 (hcv2 5 _ rfl);have q6:=ai hbk2 (hcv2 6 _ rfl);have q7:=ai hbk2 (hcv2 7 _ rfl);have q8:=ai hbk2 (hcv2 8 _ rfl);have q9:=ai hbk2 (hcv2 9 _ rfl);have q10:=ai hbk2 (hcv2 10 _ rfl);have HS:=aa hs;clear hs
     have vL:∀ (i:Nat) (z:Value),[.string v.name,.int .u64 v.id,.bool v.hidden,.bool v.ro,.slice tp v.tags.length tc,.slice (some ⟨b2,off2,none⟩) v.Gf.length sc][i]?=some z→wr.cell? ⟨Bv,i,none⟩=some z:=fun i z hz=>by
      simp only [World.cell?,HBv.out];simpa using hz
     have v0:=vL 0 _ rfl;have v1:=vL 1 _ rfl;have v2:=vL 2 _ rfl;have v3:=vL 3 _ rfl;have v4:=vL 4 _ rfl;have v5:=vL 5 _ rfl;have hA:=ae wr (.cells #[.int .i64 s.start,.int .i64 s.length,.int .i64 s.kind,.slice ap s.Ga.length ac,.int .i64 s.chunk,.slice stp s.stale.length stc,.string s.log,.string s.pool,.int .i64 s.device,.int .i64 s.mode,.int .i64 s.done] 79);have HM2:=aa (HM.out.trans (Mod.of_below (F:=fun _=>False) hA) (fun _ f=>f.elim));have HI2:=aa (HII.out _ _ _ HI.out hA);have hBz:=lt_of_block HBv.out;have HB2:=aa ((hA.block _ hBz).trans HBv.out);clear hcv2 hul2 hbk2 har hst vL hA
     go_wp2_with fail
     clear q0 q1 q2 q3 q4 q5 q6 q7 q8 q9 q10 v0 v1 v2 v3 v4 v5;generalize hW2:World.alloc wr _=W2 at *;clear hW2;have hCall:=HCC.out (bW g.F9 k j v) v s (fV g.F9 k (j+1) v) (jB g.F9 k j v s HV.out HS.out) W2 _ _ HM2.out HI2.out (aN.moves.mv (Mv.mod HM2.out (fun b f=>(HFF.out b f).2)) HVV.out) (bC.moves.mv (Mv.mod HM2.out (fun b f=>(HFF.out b f).2)) HSV.out);refine hCall.mono ?_;clear hCall;rintro e w3 ⟨rfl,hm3,hi3⟩;have HI3:=aa hi3;clear hi3;have HM3:=aa (HM2.out.trans hm3 (fun k f=>.inl f));have HB3:Hid (w3.heap[Bv]?=_):=aa ((hm3.block _ (lt_of_block HB2.out) (fun f=>by have:=(HFF.out Bv f).1;omega)).trans HB2.out)
     have HE3:Hid (bD E [] (aA g.F9)=if E (bW g.F9 k j v) v s=0 then bD E (bW g.F9 k (j+1) v) (fV g.F9 k (j+1) v) else (v.name,E (bW g.F9 k j v) v s)):=aa (by
      rw [HE.out,ku g.F9 k j v s HS.out,fG g.F9 k j v s HS.out]
      rfl)
     have HI3':Hid (E (bW g.F9 k j v) v s=0→I (bW g.F9 k (j+1) v) w3):=aa (fun h=>by rw [fG g.F9 k j v s HS.out];exact HI3.out h);have n0:w3.cell? ⟨Bv,0,none⟩=some (.string v.name):=by simp [World.cell?,HB3.out]
     clear hm3 HI3 HM2 HI2 HB2 HI HE;generalize E (bW g.F9 k j v) v s=x at *
     by_cases hx:x=0
     ·have hxb:(x != 0)=false:=by simpa using hx
      have HX:=aa hx;clear hx;go_wp2;go_roundw
      case rel=>exact ⟨j+1,by omega,by go_num,HM3.out,HI3'.out HX.out,by rw [HE3.out,if_pos HX.out],HB3.out⟩
      case measure=>simp [intOf];omega
     ·have hxb:(x != 0)=true:=by simpa using hx
      have HX:=aa hx;clear hx;go_wp2;go_ret2;exact ⟨by rw [HE3.out,if_neg HX.out];rfl,HM3.out,fun h=>absurd (by rw [HE3.out,if_neg HX.out] at h;exact h) HX.out⟩
    ·obtain rfl:j=v.Gf.length:=by omega
     have HE3:Hid (bD E [] (aA g.F9)=bD E (aA (g.F9.take (k+1))) (aA (g.F9.drop (k+1)))):=aa (by rw [HE.out,fJ g.F9 k v HV.out,lh]);have HI3:Hid (I (aA (g.F9.take (k+1))) wr):=aa (by rw [← fJ g.F9 k v HV.out];exact HI.out);clear HI HE;go_wp2;go_roundw
     case rel=>exact ⟨k+1,by omega,by go_num,HM.out,HI3.out,HE3.out⟩
     case measure=>simp [intOf];omega
  ·obtain rfl:k=g.F9.length:=by omega
   have HR:Hid (bD E [] (aA g.F9)=(⟨#[]⟩,0)):=aa (by rw [HE.out,List.drop_length];rfl);have HIF:Hid (I (aA g.F9) wr):=aa (by have:=HI.out;rwa [List.take_length] at this);go_wp2;go_ret2;exact ⟨by rw [HR.out];rfl,HM.out,fun _=>HIF.out⟩
theorem jZ {F9:List ay}{pre post:List (ay × aB)}{v:ay}{s:aB}(h:aA F9=pre++(v,s) :: post):v∈F9∧s∈v.Gf:=by
 have:(v,s)∈aA F9:=by rw [h];simp
 obtain ⟨v',hv,hs⟩:=List.mem_flatMap.1 this;obtain ⟨s',hs',e⟩:=List.mem_map.1 hs;injection e with e1 e2
 subst e1;subst e2;exact ⟨hv,hs'⟩
theorem Mod.none {w w':World}(h:Mod (fun _=>False) w w'):Below w.heap.size w w':=h.below (Nat.le_refl _) (fun _ f=>f.elim)
structure GFm (g:af):Prop where
 sz:GSz g
 de:∀ d∈g.Gb,0≤d.Gc∧d.Gc≤1000000
 ext:1≤g.Gd∧g.Gd≤1024
 vn:∀ v∈g.F9,v.name.size≤1000000000
 sf:∀ v∈g.F9,∀ s∈v.Gf,wM s
def mY (g:af):ByteArray × Int:=bD (fun _ v s=>mM g v s) [] (aA g.F9)
def gX (r:ByteArray × Int)(w:World)(e:Ending)(w':World):Prop:=e=.returned (.tuple #[.string r.1,.int .i64 r.2])∧Below w.heap.size w w'
theorem rM {ok:Nat→Prop}(g:af)(a:bN)(bc:Nat)(w:World)(hck:gY w bc g a)(hg:dN ok w g a)(hf:GFm g)(hS:Sfx w) :
  Calls Tryz.prog 87 #[.pointer (some ⟨bc,0,none⟩)] w (gX (mY g) w):=by
 have hA:=ae w (.cells #[.pointer (some ⟨bc,0,none⟩)] 137);have HB:=aa (heap_alloc_new w (.cells #[.pointer (some ⟨bc,0,none⟩)] 137));have HA:=aa hA;clear hA;have HCK:=aa (hck.below HA.out);have HG:=aa (hg.mv (Mv.of HA.out));have HS:=aa (hS.below HA.out);have HF:=aa hf;clear hck hg hS hf;go_enter Tryz.func87,Tryz.ntmps87
 go_wp2_with fail
 generalize hW1:World.alloc w _=W1 at *;generalize hBc:w.heap.size=Bc at *;clear hW1;refine (DV (ok:=ok) (F:=fun _=>False) g a bc (.pointer (some ⟨Bc,0,none⟩)) (fun _ v s=>mM g v s) (fun _ _=>True) W1 HCK.out HG.out HF.out.sz (fun _ f=>f.elim) (fun _ _ _ _ _=>trivial) trivial ?_).mono ?_
 ·intro pre v s post hp W u1 u2 hm _ hv hs
  obtain ⟨m1,m2⟩:=jZ hp;have hb:=hm.none;refine (pK (ok:=ok) g a bc Bc v s u1 u2 W (HCK.out.below hb) ((hb.cell (p:=⟨Bc,0,none⟩) (lt_of_block HB.out)).trans (by simp [World.cell?,HB.out])) (Nat.lt_of_lt_of_le (lt_of_block HB.out) hb.size) (HG.out.mv (Mv.of hb)) HF.out.sz HF.out.de hv hs (HF.out.sf v m1 s m2) (HF.out.sz.vz v m1) (HS.out.below hb) (HF.out.vn v m1)).mono ?_;rintro e W' ⟨rfl,hb'⟩;exact ⟨rfl,Mod.of_below hb',fun _=>trivial⟩
 ·rintro e w2 ⟨rfl,hm,_⟩
  have HM:=aa hm;clear hm;have HR:Hid (mY g=_):=aa (mY.eq_1 g);go_wp2;go_ret2;subst hBc;exact ⟨by rw [HR.out];rfl,HA.out.trans (HM.out.none.mono HA.out.size)⟩
end Go.Proofs.YtjdfihglehfelaaGreatDoor
