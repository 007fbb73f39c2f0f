/- Lemmas: ModL, ModZ, NeeA, ModM, ModN. -/
import Derived.Test.YtjdfihglehfelaaGreatDoorPk21
set_option maxRecDepth 100000
set_option maxHeartbeats 32000000
set_option linter.all false
namespace Go.Proofs.YtjdfihglehfelaaGreatDoor
open Go.RowKit Go.Maps Go.Shelf
def qV (ext:Int)(n:Nat):List aB→Int→Int
 | [],_=>0
 | s :: r,st=>if bJ ext s st=false then 2 else if 1<n∧(oO s.kind).several=false then 17 else qV ext n r (st+s.length)
def iM (f:ay→Int):List ay→ByteArray × Int
 | []=>(⟨#[]⟩,0)
 | v :: r=>if f v=0 then iM f r else (v.name,f v)
def DW (g:af)(v:ay):Int:=qV g.Gd v.Gf.length v.Gf 0
def iP (g:af):ByteArray × Int:=iM (DW g) g.F9
theorem drop_at {α:Type}{l:List α}{k:Nat}{x:α}(h:l[k]?=some x):l.drop k=x :: l.drop (k+1):=by
 obtain ⟨hk,rfl⟩:=List.getElem?_eq_some_iff.1 h;exact List.drop_eq_getElem_cons hk
theorem tC {f:ay→Int}{l:List ay}{k:Nat}{v:ay}(h:l[k]?=some v):iM f (l.drop k)=if f v=0 then iM f (l.drop (k+1)) else (v.name,f v):=by
 rw [drop_at h];rfl
theorem CP {ext:Int}{n:Nat}{l:List aB}{k:Nat}{s:aB}(h:l[k]?=some s)(st:Int):qV ext n (l.drop k) st=if bJ ext s st=false then 2 else if 1<n∧(oO s.kind).several=false then 17 else qV ext n (l.drop (k+1)) (st+s.length):=by
 rw [drop_at h];rfl
theorem BK {ext:Int}{s:aB}{st:Int}(h:bJ ext s st=true):1≤s.length∧s.length≤32768:=by
 cases hs:shapeOf s.kind with
 | none=>rw [jT hs] at h;cases h
 | some x =>
  rw [jP hs] at h;simp only [Bool.and_eq_true,decide_eq_true_eq] at h;omega
theorem vw (x:eX)(w:World):(Instr.field 183 (.agg #[.int .i64 x.least,.int .i64 x.greatest,.bool x.F9,.bool x.several,.int .i64 x.chunk,.bool x.stale,.bool x.pool,.bool x.log,.bool x.mode,.bool x.done]) 3).run Tryz.prog w=.ok (.bool x.several) w:=by kernel_rfl
def Ct (g:af):Prop:=∀ v∈g.F9,∀ s∈v.Gf,(Lit.int .i64 s.kind).wf=true
theorem uR {ok:Nat→Prop}(g:af)(a:bN)(bc:Nat)(w:World)(hck:gY w bc g a)(hg:dN ok w g a)(hz:GSz g)(hx:1≤g.Gd∧g.Gd≤1024)(hkw:Ct g) :
  Calls Tryz.prog 86 #[.pointer (some ⟨bc,0,none⟩)] w (gX (iP g) w):=by
 have hbcl:=hck.lt;have HCK:=aa hck;obtain ⟨sm,hblk,hmap⟩:=hck;have HCB:Hid (bX w bc sm g a):=aa hblk;have HCB9:Hid (w.cell? ⟨bc,9,none⟩=some (.map (some sm))):=aa (by simp [World.cell?,hblk]);have HMP:=aa hmap;clear hblk hmap;obtain ⟨g0,g1,g2,g3,g4,g5,g6,g7,g8⟩:=bX.cells HCB.out;have HG:=aa hg.F9;have HZ:=aa hz;have HX:=aa hx;have HKW:=aa hkw;have hvl:=hz.vl;obtain ⟨vp,vc,hvpc,hvc1,hvc2⟩:=hg.F9.cap;clear hg hz hx hkw;injection hvpc with e1 e2 e3
 obtain ⟨gtp,gtc,gdp,gdc,gvp,gvc,ghp,ghc⟩:=a;dsimp only at e1 e2 e3 g0 g1 g2 g3 g4 g5 g6 g7 g8;subst e1;subst e3;clear e2;go_enter Tryz.func86,Tryz.ntmps86;go_wp2;clear g0 g1 g2 g3 g4 g5 g6 g7 g8
 go_loopw [15] (fun i wr=>∃ k:Nat,k≤g.F9.length∧i=.int .i64 k∧Below w.heap.size w wr∧iP g=iM (DW g) (g.F9.drop k)) (fun i _=>g.F9.length - (intOf i).toNat)
 case atStart=>exact ⟨0,Nat.zero_le _,rfl,Below.refl _ _,rfl⟩
 case round =>
  obtain ⟨k,hk,rfl,hB,he⟩:=hrel;have HE:=aa he;clear he
  by_cases hlt:k<g.F9.length
  ·obtain ⟨v,hv⟩:=aj g.F9 k hlt
   rw [tC hv] at HE;obtain ⟨b,off,us,rfl,hob,hbw,hul,hvs,hcv⟩:=HG.out.elem hv;have hvm:=List.mem_of_getElem? hv;have hvz:=HZ.out.vz v hvm;have hsl:=hvz.Gf;have HSG:=aa hvz.seg;have HKV:=aa (HKW.out v hvm);obtain ⟨tv,sv,rfl,htr,hsr⟩:=hvs;obtain ⟨tp,tc,rfl,_,_⟩:=htr.cap;obtain ⟨sp,sc,rfl,hsc1,hsc2⟩:=hsr.cap;have hbk:wr.heap[b]?=w.heap[b]?:=hB.block b hbw;have q0:=bK hbk (hcv 0 _ rfl);have q1:=ai hbk (hcv 1 _ rfl);have q2:=ai hbk (hcv 2 _ rfl);have q3:=ai hbk (hcv 3 _ rfl);have q4:=ai hbk (hcv 4 _ rfl);have q5:=ai hbk (hcv 5 _ rfl);have HV:=aa hv;clear hv;have HSR:=aa hsr;clear hcv hul hbk htr hsr hvz hvm;have HBv:=aa (heap_alloc_new wr (.cells #[.string v.name,.int .u64 v.id,.bool v.hidden,.bool v.ro,.slice tp v.tags.length tc,.slice sp v.Gf.length sc] 55));have HB1:=aa (hB.trans ((ae wr (.cells #[.string v.name,.int .u64 v.id,.bool v.hidden,.bool v.ro,.slice tp v.tags.length tc,.slice sp v.Gf.length sc] 55)).mono hB.size));have hwz:=hB.size;go_wp2;clear q0 q1 q2 q3 q4 q5;generalize hW1:World.alloc wr _=W1 at *;generalize hBv:wr.heap.size=Bv at *;clear hW1 hBv hB
   go_loopw [22,6] (fun i st wi=>∃ (j:Nat) (t:Int),j≤v.Gf.length∧i=.int .i64 j∧st=.int .i64 t∧0≤t∧t≤j*32768∧Below w.heap.size w wi∧DW g v=qV g.Gd v.Gf.length (v.Gf.drop j) t∧wi.heap[Bv]?=some (.cells #[.string v.name,.int .u64 v.id,.bool v.hidden,.bool v.ro,.slice tp v.tags.length tc,.slice sp v.Gf.length sc] 55 (0,0))) (fun i _ _=>v.Gf.length - (intOf i).toNat)
   case atStart=>exact ⟨0,0,Nat.zero_le _,rfl,rfl,by omega,by omega,HB1.out,rfl,HBv.out⟩
   case round =>
    clear HB1 HBv;obtain ⟨j,t,hj,rfl,rfl,ht0,ht1,hB,hse,hbv⟩:=hrel;have HSE:=aa hse;clear hse;have HBv:=aa hbv;clear hbv
    by_cases hlt2:j<v.Gf.length
    ·obtain ⟨s,hs⟩:=aj v.Gf j hlt2
     rw [CP hs] at HSE;obtain ⟨b2,off2,us2,hsp,hob2,hbw2,hul2,hvs2,hcv2⟩:=HSR.out.elem hs;subst hsp;have HSV:=aa hvs2;have hsm:=List.mem_of_getElem? hs;have hsz:=HSG.out s hsm;have hsz1:=hsz.1;have hsz2:=hsz.2;have HKS:=aa (HKV.out s hsm);obtain ⟨av,stv,rfl,har,hst⟩:=hvs2;obtain ⟨ap,ac,rfl,_,_⟩:=har.cap;obtain ⟨stp,stc,rfl,_,_⟩:=hst.cap;have hbk2:wr.heap[b2]?=w.heap[b2]?:=hB.block b2 hbw2;have q0:=bK hbk2 (hcv2 0 _ rfl);have q1:=ai hbk2 (hcv2 1 _ rfl);have q2:=ai hbk2 (hcv2 2 _ rfl);have q3:=ai hbk2 (hcv2 3 _ rfl);have q4:=ai hbk2 (hcv2 4 _ rfl);have q5:=ai hbk2 (hcv2 5 _ rfl);have q6:=ai hbk2 (hcv2 6 _ rfl);have q7:=ai hbk2 (hcv2 7 _ rfl);have q8:=ai hbk2 (hcv2 8 _ rfl);have q9:=ai hbk2 (hcv2 9 _ rfl);have q10:=ai hbk2 (hcv2 10 _ rfl);clear hs hsm hsz hcv2 hul2 hbk2 har hst;have HBs:=aa (heap_alloc_new wr (.cells #[.int .i64 s.start,.int .i64 s.length,.int .i64 s.kind,.slice ap s.Ga.length ac,.int .i64 s.chunk,.slice stp s.stale.length stc,.string s.log,.string s.pool,.int .i64 s.device,.int .i64 s.mode,.int .i64 s.done] 79));have hA:=ae wr (.cells #[.int .i64 s.start,.int .i64 s.length,.int .i64 s.kind,.slice ap s.Ga.length ac,.int .i64 s.chunk,.slice stp s.stale.length stc,.string s.log,.string s.pool,.int .i64 s.device,.int .i64 s.mode,.int .i64 s.done] 79);have HB2:=aa (hB.trans (hA.mono hB.size));have HBv2:=aa ((hA.block _ (lt_of_block HBv.out)).trans HBv.out);clear hA
     go_wp2_with fail
     clear q0 q1 q2 q3 q4 q5 q6 q7 q8 q9 q10;generalize hW2:World.alloc wr _=W2 at *;generalize hBs:wr.heap.size=Bs at *;clear hW2 hBs;refine (ze (ok:=ok) g _ bc s t _ W2 (HCK.out.below HB2.out) (by have:=HX.out.1;omega) (by have:=HX.out.2;omega) (bC.moves.mv (Mv.of HB2.out) HSV.out) hsz1 hsz2 HKS.out).mono ?_;rintro e w3 ⟨rfl,hb3⟩;have HB3:=aa (HB2.out.trans (hb3.mono HB2.out.size));have HBv3:=aa ((hb3.block _ (lt_of_block HBv2.out)).trans HBv2.out);have HBs3:=aa ((hb3.block _ (lt_of_block HBs.out)).trans HBs.out);clear hb3;have n0:w3.cell? ⟨Bv,0,none⟩=some (.string v.name):=by simp [World.cell?,HBv3.out]
     have n5:w3.cell? ⟨Bv,5,none⟩=some (.slice (some ⟨b2,off2,none⟩) v.Gf.length sc):=by simp [World.cell?,HBv3.out]
     have s1:w3.cell? ⟨Bs,1,none⟩=some (.int .i64 s.length):=by simp [World.cell?,HBs3.out]
     have s2:w3.cell? ⟨Bs,2,none⟩=some (.int .i64 s.kind):=by simp [World.cell?,HBs3.out]
     have c9:=(HB3.out.cell (p:=⟨bc,9,none⟩) hbcl).trans HCB9.out;cases hf:bJ g.Gd s t with
     | false =>
      have HR:Hid (iP g=(v.name,2)):=aa (by rw [HE.out,HSE.out,if_pos hf,if_neg (by decide)]);go_wp2;go_ret2;exact ⟨by rw [HR.out];rfl,HB3.out⟩
     | true =>
      have hfl:=BK hf;have hfl1:=hfl.1;have hfl2:=hfl.2;rw [hf,if_neg (by simp)] at HSE;clear hf hfl
      by_cases h1:1<v.Gf.length
      ·have hlk:∀ n,(Instr.lookup 138 (.map (some sm)) (.int .i64 s.kind) false).run Tryz.prog (w3.drewN n)=.ok (jR (oO s.kind)) (w3.drewN n):=fun n=>by
        have hm:bi Tryz.prog 3 (w3.drewN n) sm 10 eH:=HMP.out.block (HB3.out.block _ HMP.out.lt);have:=(hm.look pF Tryz.underlying138 (uG _) (keyOf_int_mk Tryz.underlying3 HKS.out)).1
        rwa [uA] at this
       generalize hxs:oO s.kind=x at *;have hlk':∀ n,(Instr.lookup 138 (.map (some sm)) (.int .i64 s.kind) false).run Tryz.prog (w3.drewN n)=.ok (.agg #[.int .i64 x.least,.int .i64 x.greatest,.bool x.F9,.bool x.several,.int .i64 x.chunk,.bool x.stale,.bool x.pool,.bool x.log,.bool x.mode,.bool x.done]) (w3.drewN n):=hlk;clear hlk hxs;have hfd:=vw x;have hd1:decide ((1:Int)<(v.Gf.length:Int))=true:=by simp;omega
       go_upto_region 10 with (fail)
       go_quiet (fail);clear hlk' hfd;cases hsv:x.several with
       | true =>
        rw [if_neg (fun h=>by rw [hsv] at h;cases h.2)] at HSE
        go_wp2;go_roundw
        case rel=>exact ⟨j+1,t+s.length,by omega,by go_num,rfl,by omega,by push_cast;omega,aT HB3.out _,HSE.out,HBv3.out⟩
        case measure=>simp [intOf];omega
       | false =>
        rw [if_pos ⟨h1,hsv⟩] at HSE;have HR:Hid (iP g=(v.name,17)):=aa (by rw [HE.out,HSE.out,if_neg (by decide)]);go_wp2;go_ret2;exact ⟨by rw [HR.out];rfl,aT HB3.out _⟩
      ·have hd1:decide ((1:Int)<(v.Gf.length:Int))=false:=by simp;omega
       rw [if_neg (fun h=>h1 h.1)] at HSE
       go_upto_region 10 with (fail)
       go_quiet (fail);go_wp2;go_roundw
       case rel=>exact ⟨j+1,t+s.length,by omega,by go_num,rfl,by omega,by push_cast;omega,aT HB3.out _,HSE.out,HBv3.out⟩
       case measure=>simp [intOf];omega
    ·obtain rfl:j=v.Gf.length:=by omega
     have HR:Hid (iP g=iM (DW g) (g.F9.drop (k+1))):=aa (by rw [HE.out,if_pos (by rw [HSE.out,List.drop_length];rfl)]);go_wp2;go_roundw
     case rel=>exact ⟨k+1,by omega,by go_num,hB,HR.out⟩
     case measure=>simp [intOf];omega
  ·obtain rfl:k=g.F9.length:=by omega
   have HR:Hid (iP g=(⟨#[]⟩,0)):=aa (by rw [HE.out,List.drop_length];rfl);go_wp2;go_ret2;exact ⟨by rw [HR.out];rfl,hB⟩
theorem Mod.grown {w w':World}{b:Nat}(g:w.grownBy w' (some b)):Mod (fun k=>k=b) w w':=⟨g.os,g.tape,g.output,g.size,fun k hk hne=>g.block k hk (fun e=>hne (by injection e))⟩
def tkB (M:List (ByteArray × Int × Int))(nm:ByteArray)(i:Nat):Bool:=M.any fun m=>decide (m.1=nm)&&(decide (m.2.1≤(i:Int))&&decide ((i:Int)<m.2.1+m.2.2))
def bz (M:List (ByteArray × Int × Int))(d:az):List Bool:=(List.range d.Gc.toNat).map (tkB M d.name)
def tV (M:List (ByteArray × Int × Int))(nm:ByteArray)(st n:Int):Bool:=(List.range n.toNat).any fun j=>tkB M nm (st.toNat+j)
def nP (n:Int):List (ByteArray × Int × Int)→List aR→Bool
 | _,[]=>false
 | M,a :: r=>if a.vol=true then nP n M r else if tV M a.on a.start n=true then true else nP n (M++[(a.on,a.start,n)]) r
def dC (n:Int)(l:List aR):List (ByteArray × Int × Int):=(l.filter fun a=>!a.vol).map fun a=>(a.on,a.start,n)
def aX (s:aB):Int:=iB s.kind s.length s.Ga.length
def lU (pre:List (ay × aB)):List (ByteArray × Int × Int):=pre.flatMap fun p=>dC (aX p.2) p.2.Ga
def CQ (pre:List (ay × aB))(_:ay)(s:aB):Int:=if nP (aX s) (lU pre) s.Ga=true then 15 else 0
def BL (pre:List (ay × aB))(_:ay)(s:aB):Int:=if s.kind=6 then (if pre.any (fun p=>decide (p.2.kind=6)&&(decide (p.2.pool=s.pool)&&decide (p.2.device=s.device)))=true then 9 else 0) else 0
def pE (g:af):ByteArray × Int:=if (bD CQ [] (aA g.F9)).2=0 then bD BL [] (aA g.F9) else bD CQ [] (aA g.F9)
theorem nO (M:List (ByteArray × Int × Int))(m:ByteArray × Int × Int)(nm:ByteArray)(i:Nat):tkB (M++[m]) nm i=(tkB M nm i||(decide (m.1=nm)&&(decide (m.2.1≤(i:Int))&&decide ((i:Int)<m.2.1+m.2.2)))):=by
 unfold tkB;rw [List.any_append];simp
theorem gP (M:List (ByteArray × Int × Int))(d:az):(bz M d).length=d.Gc.toNat:=by simp [bz]
theorem gU {M:List (ByteArray × Int × Int)}{d:az}{i:Nat}(h:i<d.Gc.toNat):(bz M d)[i]?=some (tkB M d.name i):=by simp [bz,h]
theorem lQ (M:List (ByteArray × Int × Int))(d:az)(m:ByteArray × Int × Int)(h:¬ m.1=d.name):bz (M++[m]) d=bz M d:=by
 unfold bz;refine List.map_congr_left fun i _=>?_;rw [nO];simp [h]
theorem vQ (M:List (ByteArray × Int × Int))(d:az)(nm:ByteArray)(st:Int):bz (M++[(nm,st,0)]) d=bz M d:=by
 unfold bz;refine List.map_congr_left fun i _=>?_;rw [nO]
 have:(decide (st≤(i:Int))&&decide ((i:Int)<st+0))=false:=by
  rw [← Bool.decide_and];exact decide_eq_false (by omega)
 simp only [this,Bool.and_false,Bool.or_false]
theorem xH (M:List (ByteArray × Int × Int))(d:az)(st:Int)(j:Nat)(h0:0≤st):(bz (M++[(d.name,st,(j:Int))]) d).set (st.toNat+j) true=bz (M++[(d.name,st,((j+1:Nat):Int))]) d:=by
 refine List.ext_getElem? fun i=>?_;rw [List.getElem?_set]
 by_cases hi:i<d.Gc.toNat
 ·rw [gU hi,gU hi,gP]
  rw [nO,nO];simp only [decide_true,Bool.true_and,← Bool.decide_and];split
  ·rename_i e
   subst e;rw [if_pos hi];have:decide (st≤((st.toNat+j:Nat):Int)∧((st.toNat+j:Nat):Int)<st+((j+1:Nat):Int))=true:=decide_eq_true (by omega);rw [this,Bool.or_true]
  ·rename_i e
   congr 1
   have:(st≤(i:Int)∧(i:Int)<st+(j:Int))↔(st≤(i:Int)∧(i:Int)<st+((j+1:Nat):Int)):=by omega
   simp only [this]
 ·have h1:∀ M',(bz M' d)[i]?=none:=fun M'=>List.getElem?_eq_none (by rw [gP];omega)
  rw [h1,h1,gP];split
  ·rename_i e
   subst e;rw [if_neg hi]
  ·rfl
theorem D5 (M:List (ByteArray × Int × Int))(d:az)(st n:Int)(h0:0≤st)(hn:0≤n)(h:st+n≤d.Gc):(((bz M d).drop st.toNat).take n.toNat).any id=tV M d.name st n:=by
 have e:((bz M d).drop st.toNat).take n.toNat=(List.range n.toNat).map fun j=>tkB M d.name (st.toNat+j):=by
  refine List.ext_getElem? fun i=>?_;rw [List.getElem?_take]
  by_cases hi:i<n.toNat
  ·rw [if_pos hi,List.getElem?_drop,gU (by omega)]
   simp [hi]
  ·rw [if_neg hi]
   exact (List.getElem?_eq_none (by rw [List.length_map,List.length_range];omega)).symm
 rw [e];unfold tV;rw [List.any_map];rfl
theorem xC (n:Int)(l:List aR)(k:Nat)(a:aR)(h:l[k]?=some a):dC n (l.take (k+1))=if a.vol=true then dC n (l.take k) else dC n (l.take k)++[(a.on,a.start,n)]:=by
 rw [take_snoc' l k a h];unfold dC;cases hv:a.vol <;> simp [hv]
theorem Ee (n:Int)(M:List (ByteArray × Int × Int)){l:List aR}{k:Nat}{a:aR}(h:l[k]?=some a):nP n M (l.drop k)=if a.vol=true then nP n M (l.drop (k+1)) else if tV M a.on a.start n=true then true else nP n (M++[(a.on,a.start,n)]) (l.drop (k+1)):=by
 rw [drop_at h];rfl
def vG (L:List (az × Nat)):Value→Option Value
 | .string s=>(L.find? fun p=>decide (p.1.name=s)).map fun p=>.slice (some ⟨p.2,0,none⟩) p.1.Gc.toNat p.1.Gc.toNat
 | _=>none
theorem Av (L:List (az × Nat))(d:az)(b:Nat)(h:∀ p∈L,¬ p.1.name=d.name)(key:Value):vG (L++[(d,b)]) key=upd (vG L) (.string d.name) (.slice (some ⟨b,0,none⟩) d.Gc.toNat d.Gc.toNat) key:=by
 by_cases hk:key=.string d.name
 ·subst hk
  rw [upd_same];show ((L++[(d,b)]).find? fun p=>decide (p.1.name=d.name)).map _=_;rw [List.find?_append,List.find?_eq_none.2 (fun p hp=>by simpa using h p hp)];simp
 ·rw [bP hk]
  unfold vG;split
  ·rename_i s
   have:¬ d.name=s:=fun e=>hk (by rw [e]);rw [List.find?_append];simp [this]
  ·rfl
theorem Dv {L:List (az × Nat)}{nm:ByteArray}{d:az}(h:bH (L.map (·.1)) nm=some d):∃ b,(d,b)∈L∧d.name=nm∧vG L (.string nm)=some (.slice (some ⟨b,0,none⟩) d.Gc.toNat d.Gc.toNat):=by
 unfold bH at h;rw [List.find?_map] at h;obtain ⟨p,hp,rfl⟩:=Option.map_eq_some_iff.1 h;refine ⟨p.2,List.mem_of_find?_eq_some hp,by simpa using List.find?_some hp,?_⟩;have e:(fun p:az × Nat=>decide (p.1.name=nm))=((fun d:az=>decide (d.name=nm)) ∘ fun x:az × Nat=>x.1):=rfl;show (L.find? fun p=>decide (p.1.name=nm)).map _=_;rw [e,hp];rfl
def bI (l:List ByteArray)(x:ByteArray):Bool:=l.any fun y=>decide (y=x)
theorem ny {l:List ByteArray}{x:ByteArray}:bI l x=true↔x∈l:=by
 unfold bI;rw [List.any_eq_true];exact ⟨fun ⟨y,hy,e⟩=>by rw [← of_decide_eq_true e];exact hy,fun h=>⟨x,h,by simp⟩⟩
theorem lX {l:List ByteArray}{x:ByteArray}:bI l x=false↔x ∉ l:=by
 rw [← ny];exact Bool.eq_false_iff
theorem fU (l:List ByteArray)(x y:ByteArray):bI (l++[x]) y=(bI l y||decide (x=y)):=by
 unfold bI;rw [List.any_append];simp
def rQ (s:aB):List ByteArray:=((s.Ga.filter (·.vol)).map (·.on))++(if s.log.toList.isEmpty then [] else [s.log])++(if s.pool.toList.isEmpty then [] else [s.pool])
def kY (v:ay):List ByteArray:=v.Gf.flatMap rQ
def dU (F9:List ay)(nm:ByteArray):Option (List ByteArray):=(aM F9 nm).map kY
inductive Reach (lk:ByteArray→Option (List ByteArray))(l0:List ByteArray):ByteArray→Prop
 | base {x:ByteArray}:x∈l0→(lk x).isSome=true→Reach lk l0 x
 | step {x y:ByteArray} {l:List ByteArray}:Reach lk l0 y→lk y=some l→x∈l→(lk x).isSome=true→Reach lk l0 x
structure nX (lk:ByteArray→Option (List ByteArray))(l0 met todo:List ByteArray):Prop where
 m:∀ x∈met,Reach lk l0 x
 t:∀ x∈todo,(lk x).isSome=true→Reach lk l0 x
 b:∀ x∈l0,(lk x).isSome=true→x∈met∨x∈todo
 c:∀ y∈met,∀ l,lk y=some l→∀ x∈l,(lk x).isSome=true→x∈met∨x∈todo
variable {lk:ByteArray→Option (List ByteArray)}{l0 met todo:List ByteArray}
theorem nX.start:nX lk l0 [] l0:=⟨fun _ h=>absurd h (by simp),fun _ h hs=>Reach.base h hs,fun _ h _=>Or.inr h,fun _ h=>absurd h (by simp)⟩
theorem nX.done (h:nX lk l0 met [])(x:ByteArray):x∈met↔Reach lk l0 x:=by
 refine ⟨h.m x,fun r=>?_⟩
 induction r with
 | base h1 h2=>exact (h.b _ h1 h2).elim id fun q=>by cases q
 | step _ h2 h3 h4 ih=>exact (h.c _ ih _ h2 _ h3 h4).elim id fun q=>by cases q
theorem nX.skip {x:ByteArray}(h:nX lk l0 met (todo++[x]))(hx:(lk x).isSome=false∨x∈met):nX lk l0 met todo:=by
 have key:∀ y,(lk y).isSome=true→y∈met∨y∈todo++[x]→y∈met∨y∈todo:=fun y hs q=>by
  rcases q with q | q
  ·exact .inl q
  ·rcases List.mem_append.1 q with q | q
   ·exact .inr q
   ·obtain rfl:=List.mem_singleton.1 q
    rcases hx with e | e
    ·rw [e] at hs;cases hs
    ·exact .inl e
 exact ⟨h.m,fun y hy=>h.t y (List.mem_append_left _ hy),fun y hy hs=>key y hs (h.b y hy hs),fun y hy l hl z hz hs=>key z hs (h.c y hy l hl z hz hs)⟩
theorem nX.more {x:ByteArray}{l:List ByteArray}(h:nX lk l0 met (todo++[x]))(hx:lk x=some l):nX lk l0 (met++[x]) (todo++l):=by
 have hr:Reach lk l0 x:=h.t x (by simp) (by rw [hx];rfl)
 have key:∀ y,y∈met∨y∈todo++[x]→y∈met++[x]∨y∈todo++l:=fun y q=>by
  rcases q with q | q
  ·exact .inl (List.mem_append_left _ q)
  ·rcases List.mem_append.1 q with q | q
   ·exact .inr (List.mem_append_left _ q)
   ·exact .inl (List.mem_append_right _ q)
 refine ⟨fun y hy=>?_,fun y hy hs=>?_,fun y hy hs=>key y (h.b y hy hs),fun y hy k hk z hz hs=>?_⟩
 ·rcases List.mem_append.1 hy with q | q
  ·exact h.m y q
  ·obtain rfl:=List.mem_singleton.1 q
   exact hr
 ·rcases List.mem_append.1 hy with q | q
  ·exact h.t y (List.mem_append_left _ q) hs
  ·exact .step hr hx q hs
 ·rcases List.mem_append.1 hy with q | q
  ·exact key z (h.c y q k hk z hz hs)
  ·obtain rfl:=List.mem_singleton.1 q
   rw [hx] at hk;injection hk with e
   subst e;exact .inr (List.mem_append_right _ hz)
def nK (names:List ByteArray)(U:Nat)(met todo:List ByteArray):Nat:=(names.filter fun n=>!bI met n).length*(U+1)+todo.length
theorem lw (names:List ByteArray)(U:Nat)(met todo:List ByteArray)(x:ByteArray):nK names U met todo<nK names U met (todo++[x]):=by
 unfold nK;rw [List.length_append];simp
theorem kQ {α:Type}{p q:α→Bool}:∀ {l:List α} {x:α},(∀ y,q y=true→p y=true)→x∈l→p x=true→q x=false→(l.filter q).length<(l.filter p).length
 | [],_,_,hx,_,_=>by cases hx
 | a :: l,x,hqp,hx,hp,hq=>by
  have hle:(l.filter q).length≤(l.filter p).length:=by
   have e:l.filter q=(l.filter p).filter q:=by
    rw [List.filter_filter];refine List.filter_congr fun y _=>?_;cases h:q y <;> simp [h,hqp y]
   rw [e];exact List.length_filter_le ..
  by_cases e:x=a
  ·subst e
   simp only [List.filter_cons,hp,hq,if_true,Bool.false_eq_true,if_false,List.length_cons];omega
  ·have hx':x∈l:=(List.mem_cons.1 hx).resolve_left e
   have ih:=kQ hqp hx' hp hq
   by_cases ha:q a=true
   ·simp only [List.filter_cons,ha,hqp a ha,if_true,List.length_cons]
    omega
   ·simp only [List.filter_cons,ha,if_false,Bool.false_eq_true]
    split
    ·rw [List.length_cons];omega
    ·omega
theorem Ap (names:List ByteArray)(U:Nat)(met todo l:List ByteArray)(x:ByteArray)(hx:x∈names)(hm:x ∉ met)(hl:l.length≤U):nK names U (met++[x]) (todo++l)<nK names U met (todo++[x]):=by
 unfold nK;have h:=kQ (p:=fun n=>!bI met n) (q:=fun n=>!bI (met++[x]) n) (l:=names) (x:=x) (fun y hy=>by rw [fU] at hy;cases h:bI met y <;> simp [h] at hy ⊢) hx (by rw [lX.2 hm];rfl) (by rw [fU];simp)
 generalize (names.filter fun n=>!bI met n).length=a at *;generalize (names.filter fun n=>!bI (met++[x]) n).length=b at *;have:(b+1)*(U+1)≤a*(U+1):=Nat.mul_le_mul_right _ h;rw [Nat.succ_mul] at this;simp only [List.length_append,List.length_singleton];omega
def BG (names met:List ByteArray):Nat:=(names.filter fun n=>!bI met n).length
theorem Bn (names met:List ByteArray)(x:ByteArray)(hx:x∈names)(hm:x ∉ met):BG names (met++[x])<BG names met :=
 kQ (p:=fun n=>!bI met n) (q:=fun n=>!bI (met++[x]) n) (l:=names) (x:=x) (fun y hy=>by rw [fU] at hy;cases h:bI met y <;> simp [h] at hy ⊢) hx (by rw [lX.2 hm];rfl) (by rw [fU];simp)
theorem Ae (names met:List ByteArray):BG names met≤names.length:=List.length_filter_le ..
def oN (met:List ByteArray):Value→Option Value
 | .string s=>if bI met s=true then some (.bool true) else none
 | _=>none
theorem xk (met:List ByteArray)(s:ByteArray):(oN met (.string s)).getD (.bool false)=.bool (bI met s):=by
 show (if bI met s=true then some (Value.bool true) else none).getD (.bool false)=_;cases h:bI met s <;> simp
theorem uH (met:List ByteArray)(x:ByteArray)(key:Value):oN (met++[x]) key=upd (oN met) (.string x) (.bool true) key:=by
 by_cases h:key=.string x
 ·subst h
  rw [upd_same];simp [oN,fU]
 ·rw [bP h]
  unfold oN;split
  ·rename_i s
   have:¬ x=s:=fun e=>h (by rw [e]);rw [fU];simp [this]
  ·rfl
def gD {α:Type}(nm:α→ByteArray)(p:ByteArray→Bool)(l:List α):List ByteArray:=l.foldl (fun out x=>if (p (nm x)&&!bI out (nm x))=true then out++[nm x] else out) []
theorem rJ {α:Type}(nm:α→ByteArray)(p:ByteArray→Bool){l:List α}{k:Nat}{x:α}(h:l[k]?=some x):gD nm p (l.take (k+1))=if (p (nm x)&&!bI (gD nm p (l.take k)) (nm x))=true then gD nm p (l.take k)++[nm x] else gD nm p (l.take k):=by
 rw [take_snoc' l k x h];unfold gD;rw [List.foldl_append];rfl
theorem lq {α:Type}(nm:α→ByteArray)(p:ByteArray→Bool)(l:List α):(gD nm p l).length≤l.length:=by
 have:∀ (l:List α) (o:List ByteArray),(l.foldl (fun out x=>if (p (nm x)&&!bI out (nm x))=true then out++[nm x] else out) o).length≤o.length+l.length:=by
  intro l
  induction l with
  | nil=>intro o;simp
  | cons x l ih =>
   intro o;rw [List.foldl_cons,List.length_cons];refine Nat.le_trans (ih _) ?_;split
   ·rw [List.length_append,List.length_singleton];omega
   ·omega
 simpa [gD] using this l []
open Classical in
noncomputable def Fj (F9:List ay)(nm x:ByteArray):Bool:=decide (x=nm∨Reach (dU F9) ((dU F9 nm).getD []) x)
noncomputable def mR (F9:List ay)(nm:ByteArray):List ByteArray:=gD ay.name (Fj F9 nm) F9
def onS (d:ByteArray)(s:aB):Bool:=s.Ga.any fun a=>decide (a.on=d)&&!a.vol
def onV (F9:List ay)(d x:ByteArray):Bool:=((aM F9 x).getD eY).Gf.any (onS d)
noncomputable def sP (g:af)(nm:ByteArray):List ByteArray:=gD az.name (fun d=>(mR g.F9 nm).any (onV g.F9 d)) g.Gb
end Go.Proofs.YtjdfihglehfelaaGreatDoor
namespace Go.Proofs.YtjdfihglehfelaaGreatDoor
open Go.RowKit Go.Maps Go.Shelf
def ltB (a b:ByteArray):Bool:=Op.bytesLess a.toList b.toList
def kV (l:List ByteArray)(i:Nat):Bool:=mr (l.getD i ⟨#[]⟩)&&(decide (i=0)||ltB (l.getD (i - 1) ⟨#[]⟩) (l.getD i ⟨#[]⟩))
def eP (l:List ByteArray):Int:=if 8<l.length then 4 else if (List.range l.length).all (kV l) then 0 else 2
theorem kZ {ok:Nat→Prop}(l:List ByteArray)(v:Value)(w:World)(hr:RdS aF 1 ok w [v] l)(hl:l.length≤1000000)(hsz:∀ s∈l,s.size≤9223372036854775807) :
  Calls Tryz.prog 134 #[v] w fun e w'=>e=.returned (.int .i64 (eP l))∧Below w.heap.size w w':=by
 obtain ⟨p,c,rfl,hc1,hc2⟩:=hr.cap;have HR:=aa hr;clear hr;have HSZ:=aa hsz;clear hsz;have HT:Hid (eP l=_):=aa (eP.eq_1 l);go_enter Tryz.func134,Tryz.ntmps134
 by_cases h8:8<l.length
 ·rw [if_pos h8] at HT
  have hd:decide ((8:Int)<(l.length:Int))=true:=by simp;omega
  go_wp2;go_ret;exact ⟨bB HT.out.symm,Below.refl _ _⟩
 ·rw [if_neg h8] at HT
  have hd:decide ((8:Int)<(l.length:Int))=false:=by simp;omega
  go_wp2
  go_loopw [10,3,4] (fun i _ _ wr=>∃ k:Nat,k≤l.length∧i=.int .i64 k∧(∀ j,j<k→kV l j=true)∧Below w.heap.size w wr) (fun i _ _ _=>l.length - (intOf i).toNat)
  case atStart=>exact ⟨0,Nat.zero_le _,rfl,fun j hj=>by omega,Below.refl _ _⟩
  case round =>
   obtain ⟨k,hk,rfl,hall,hB⟩:=hrel;have HALL:=aa hall;clear hall
   by_cases hlt:k<l.length
   ·obtain ⟨s,hs⟩:=aj l k hlt
    obtain ⟨b,off,us,rfl,_,hbw,hul,hvs,hcv⟩:=HR.out.elem hs;obtain rfl:us=_:=hvs;have q0:=(hB.cell (p:=⟨b,off+k*1+0,none⟩) hbw).trans (hcv 0 _ rfl);rw [Nat.mul_one,Nat.add_zero] at q0;have HG:Hid (l.getD k ⟨#[]⟩=s):=aa (by simp [hs]);have hss:=HSZ.out s (List.mem_of_getElem? hs);clear hcv hul hs;have HTA:Hid (kV l k=_):=aa (kV.eq_1 l k);rw [HG.out] at HTA
    have HBAD:Hid (kV l k=false→eP l=2):=aa fun h=>by
     rw [HT.out,if_neg];intro hh;rw [List.all_eq_true] at hh;rw [hh k (List.mem_range.2 hlt)] at h;cases h
    have HGOOD:Hid (kV l k=true→∀ j,j<k+1→kV l j=true):=aa fun h j hj=>by
     by_cases hjk:j=k
     ·exact hjk ▸ h
     ·exact HALL.out j (by omega)
    go_wp2_with fail
    refine (Af s _ hss).mono ?_;rintro e w2 ⟨rfl,hb2⟩;have HB2:=aa (hB.trans (hb2.mono hB.size));clear hb2;cases ht:mr s with
    | false =>
     have HOK:Hid (kV l k=false):=aa (by rw [HTA.out,ht];rfl);go_wp2;go_ret;exact ⟨bB (HBAD.out HOK.out).symm,HB2.out⟩
    | true =>
     by_cases hk0:k<1
     ·have HOK:Hid (kV l k=true):=aa (by rw [HTA.out,ht,decide_eq_true (show k=0 by omega)];rfl)
      go_wp2;go_roundw
      case rel=>exact ⟨k+1,by omega,by go_num,HGOOD.out HOK.out,HB2.out⟩
      case measure=>simp [intOf];omega
     ·obtain ⟨r,hr'⟩:=aj l (k - 1) (by omega)
      obtain ⟨b',off',us',e',_,hbw',hul',hvs',hcv'⟩:=HR.out.elem hr';obtain rfl:us'=_:=hvs';injection e' with e'
      injection e' with eb eo
      subst eb;subst eo;have q1:=(HB2.out.cell (p:=⟨b,off+(k - 1)*1+0,none⟩) hbw).trans (hcv' 0 _ rfl);rw [Nat.mul_one,Nat.add_zero] at q1;have hgm:l.getD (k - 1) ⟨#[]⟩=r:=by simp [hr']
      rw [hgm] at HTA;clear hgm hcv' hul' hbw' hr' q0;cases hc:Op.bytesLess r.toList s.toList with
      | true =>
       have HOK:Hid (kV l k=true):=aa (by rw [HTA.out,ht,ltB,hc];simp);go_wp2;go_roundw
       case rel=>exact ⟨k+1,by omega,by go_num,HGOOD.out HOK.out,HB2.out⟩
       case measure=>simp [intOf];omega
      | false =>
       have HOK:Hid (kV l k=false):=aa (by rw [HTA.out,ht,ltB,hc,decide_eq_false (show ¬ k=0 by omega)];rfl);go_wp2;go_ret;exact ⟨bB (HBAD.out HOK.out).symm,HB2.out⟩
   ·go_wp2
    go_ret;refine ⟨bB (Eq.symm ?_),hB⟩;rw [HT.out,if_pos];rw [List.all_eq_true];exact fun j hj=>HALL.out j (by have:=List.mem_range.1 hj;omega)
def TxS (l:List ByteArray):Prop:=l.length≤1000000∧∀ s∈l,s.size≤9223372036854775807
structure GTx (g:af):Prop where
 name:g.name.size≤9223372036854775807
 tags:TxS g.tags
 dl:g.Gb.length≤1000000
 vl:g.F9.length≤1000000
 hl:g.history.length≤1000000
 disk:∀ d∈g.Gb,d.name.size≤9223372036854775807∧TxS d.tags
 vol:∀ v∈g.F9,v.name.size≤9223372036854775807∧TxS v.tags
 hist:∀ h∈g.history,h.1.size≤9223372036854775807
def lL (h:ByteArray × Int × Int):Bool:=jo h.1&&decide (0≤h.2.2∧h.2.2≤1048575)
def lm (g:af):Prop:=0≤g.seq∧g.seq≤1048575∧1≤g.Gd∧g.Gd≤1024∧0≤g.next∧g.next≤1073741824
instance (g:af):Decidable (lm g):=by unfold lm;infer_instance
def iR (g:af):Prop:=g.Gb.length≤8∧g.F9.length≤32∧g.history.length≤32
instance (g:af):Decidable (iR g):=by unfold iR;infer_instance
def qX (g:af):Int :=
 if jo g.name=false then 10 else if ¬ lm g then 1 else if ¬ iR g then 4 else if eP g.tags≠0 then eP g.tags else if g.history.all lL then 0 else 2
def dZ (g:af):ByteArray × Int:=(⟨#[]⟩,qX g)
theorem CJ {ok:Nat→Prop}(g:af)(a:bN)(bc:Nat)(w:World)(hck:gY w bc g a)(hg:dN ok w g a)(hz:GTx g)(hS:Sfx w) :
  Calls Tryz.prog 83 #[.pointer (some ⟨bc,0,none⟩)] w (gX (dZ g) w):=by
 have hbcl:=hck.lt;obtain ⟨sm,hblk,hmap⟩:=hck;have HCB:Hid (bX w bc sm g a):=aa hblk;clear hblk hmap;obtain ⟨g0,g1,g2,g3,g4,g5,g6,g7,g8⟩:=bX.cells HCB.out;have HT:=aa hg.tags;have HH:=aa hg.hist;have HZ:=aa hz;have HS:=aa hS;have hhl:=hz.hl;have hnz:=hz.name;obtain ⟨vp,vc,hvpc,hvc1,hvc2⟩:=hg.hist.cap;injection hvpc with e1 e2 e3
 obtain ⟨p6,c6,h6,h61,h62⟩:=hg.Gb.cap;obtain ⟨p7,c7,h7,h71,h72⟩:=hg.F9.cap;clear hg hz hS;obtain ⟨gtp,gtc,gdp,gdc,gvp,gvc,ghp,ghc⟩:=a;dsimp only at e1 e2 e3 g0 g1 g2 g3 g4 g5 g6 g7 g8 h6 h7;subst e1;subst e3;clear e2 h6 h7 h61 h62 h71 h72;have HE:Hid (qX g=_):=aa (qX.eq_1 g);have HBg:=aa (heap_alloc_new w (.cells #[.string g.name,.int .u64 g.id,.int .i64 g.seq,.int .i64 g.Gd,.int .i64 g.next,.slice gtp g.tags.length gtc,.slice gdp g.Gb.length gdc,.slice gvp g.F9.length gvc,.slice ghp g.history.length ghc] 31));have hA:=ae w (.cells #[.string g.name,.int .u64 g.id,.int .i64 g.seq,.int .i64 g.Gd,.int .i64 g.next,.slice gtp g.tags.length gtc,.slice gdp g.Gb.length gdc,.slice gvp g.F9.length gvc,.slice ghp g.history.length ghc] 31);have HB1:=aa hA;have HS1:=aa (HS.out.below hA);clear hA;go_enter Tryz.func83,Tryz.ntmps83
 go_wp2_with fail
 clear g0 g1 g2 g3 g4 g5 g6 g7 g8;generalize hW1:World.alloc w _=W1 at *;have hBv:w.heap.size=w.heap.size:=rfl;generalize hB0:w.heap.size=B at HBg;clear hW1 hBv;refine (fT g.name W1 hnz HS1.out).mono ?_;rintro e w2 ⟨rfl,hb2⟩;have HB2:=aa (HB1.out.trans (hb2.mono HB1.out.size));have HBg2:=aa ((hb2.block _ (lt_of_block HBg.out)).trans HBg.out);clear hb2 HB1 HBg;have n2:w2.cell? ⟨B,2,none⟩=some (.int .i64 g.seq):=by simp [World.cell?,HBg2.out]
 have n3:w2.cell? ⟨B,3,none⟩=some (.int .i64 g.Gd):=by simp [World.cell?,HBg2.out]
 have n4:w2.cell? ⟨B,4,none⟩=some (.int .i64 g.next):=by simp [World.cell?,HBg2.out]
 have n5:w2.cell? ⟨B,5,none⟩=some (.slice gtp g.tags.length gtc):=by simp [World.cell?,HBg2.out]
 have n6:w2.cell? ⟨B,6,none⟩=some (.slice gdp g.Gb.length gdc):=by simp [World.cell?,HBg2.out]
 have n7:w2.cell? ⟨B,7,none⟩=some (.slice gvp g.F9.length gvc):=by simp [World.cell?,HBg2.out]
 have n8:w2.cell? ⟨B,8,none⟩=some (.slice ghp g.history.length ghc):=by simp [World.cell?,HBg2.out]
 cases hvb:jo g.name with
 | false =>
  rw [if_pos hvb] at HE;clear hvb;go_wp2;go_ret2;exact ⟨by rw [dZ,HE.out];rfl,HB2.out⟩
 | true =>
  rw [if_neg (by rw [hvb];decide)] at HE;clear hvb
  by_cases hr:lm g
  ·rw [if_neg (fun h=>h hr)] at HE
   obtain ⟨r1,r2,r3,r4,r5,r6⟩:=hr
   by_cases hl:iR g
   ·rw [if_neg (fun h=>h hl)] at HE
    obtain ⟨l1,l2,l3⟩:=hl;have d6:decide ((8:Int)<(g.Gb.length:Int))=false:=by simp;omega
    have d7:decide ((32:Int)<(g.F9.length:Int))=false:=by simp;omega
    have d8:decide ((32:Int)<(g.history.length:Int))=false:=by simp;omega
    go_wp2_with fail
    refine (kZ (ok:=ok) g.tags _ w2 ((RdS.moves aF.moves).mv (Mv.of HB2.out) HT.out) HZ.out.tags.1 HZ.out.tags.2).mono ?_;rintro e w3 ⟨rfl,hb3⟩;have HB3:=aa (HB2.out.trans (hb3.mono HB2.out.size));have n8':w3.cell? ⟨B,8,none⟩=some (.slice ghp g.history.length ghc):=by simp [World.cell?,(hb3.block _ (lt_of_block HBg2.out)).trans HBg2.out]
    clear hb3 HB2 HBg2 n2 n3 n4 n5 n6 n7 n8 d6 d7 d8 l1 l2 r1 r2 r3 r4 r5 r6
    by_cases ht:eP g.tags=0
    ·have htt:(eP g.tags != 0)=false:=by rw [ht];rfl
     rw [if_neg (fun h=>h ht)] at HE;clear ht
     go_wp2_with fail
     go_loopw [72,7] (fun i _ wr=>∃ k:Nat,k≤g.history.length∧i=.int .i64 k∧Below w.heap.size w wr∧(∀ j,j<k→lL (g.history.getD j (⟨#[]⟩,0,0))=true)) (fun i _ _=>g.history.length - (intOf i).toNat)
     case atStart=>exact ⟨0,Nat.zero_le _,rfl,HB3.out,fun j hj=>by omega⟩
     case round =>
      clear HB3;obtain ⟨k,hk,rfl,hB,hall⟩:=hrel;have HALL:=aa hall;clear hall
      by_cases hlt:k<g.history.length
      ·obtain ⟨h,hh⟩:=aj g.history k hlt
       obtain ⟨b,off,us,hbo,hob,hbw,hul,hvs,hcv⟩:=HH.out.elem hh;subst hbo;obtain rfl:us=_:=hvs;obtain ⟨hn,hid,hsq⟩:=h;have hbk:wr.heap[b]?=w.heap[b]?:=hB.block b hbw;have q0:=bK hbk (hcv 0 _ rfl);have q1:=ai hbk (hcv 1 _ rfl);have q2:=ai hbk (hcv 2 _ rfl);have hnsz:=HZ.out.hist _ (List.mem_of_getElem? hh);have HG:Hid (g.history.getD k (⟨#[]⟩,0,0)=(hn,hid,hsq)):=aa (by simp [hh])
       have HBAD:Hid (lL (hn,hid,hsq)=false→qX g=2):=aa fun hb=>by
        rw [HE.out,if_neg];intro hh';rw [List.all_eq_true] at hh';rw [hh' _ (List.mem_of_getElem? hh)] at hb;cases hb
       have HGOOD:Hid (lL (hn,hid,hsq)=true→∀ j,j<k+1→lL (g.history.getD j (⟨#[]⟩,0,0))=true):=aa fun hb j hj=>by
        by_cases hjk:j=k
        ·subst hjk;rw [HG.out];exact hb
        ·exact HALL.out j (by omega)
       have HTA:Hid (lL (hn,hid,hsq)=_):=aa (lL.eq_1 (hn,hid,hsq));clear hcv hul hbk hh HG HALL;have HS4:=aa ((HS.out.below hB).below (ae wr (.cells #[.string hn,.int .u64 hid,.int .i64 hsq] 95)));have HB4:=aa (hB.trans ((ae wr (.cells #[.string hn,.int .u64 hid,.int .i64 hsq] 95)).mono hB.size));have HBh:=aa (heap_alloc_new wr (.cells #[.string hn,.int .u64 hid,.int .i64 hsq] 95))
       go_wp2_with fail
       clear q0 q1 q2;generalize hW4:World.alloc wr _=W4 at *;generalize hB4:wr.heap.size=Bh at *;clear hW4 hB4 hB;refine (fT hn W4 hnsz HS4.out).mono ?_;rintro e w5 ⟨rfl,hb5⟩;have HB5:=aa (HB4.out.trans (hb5.mono HB4.out.size));have m2:w5.cell? ⟨Bh,2,none⟩=some (.int .i64 hsq):=by simp [World.cell?,(hb5.block _ (lt_of_block HBh.out)).trans HBh.out]
       clear hb5 HB4 HBh;cases hvb2:jo hn with
       | false =>
        have HOK:Hid (lL (hn,hid,hsq)=false):=aa (by rw [HTA.out,hvb2];rfl);clear hvb2;go_wp2;go_ret2;exact ⟨by rw [dZ,HBAD.out HOK.out];rfl,HB5.out⟩
       | true =>
        by_cases hr2:0≤hsq∧hsq≤1048575
        ·have HOK:Hid (lL (hn,hid,hsq)=true):=aa (by rw [HTA.out,hvb2,decide_eq_true hr2];rfl)
         obtain ⟨s1,s2⟩:=hr2;clear hvb2;go_wp2;go_roundw
         case rel=>exact ⟨k+1,by omega,by go_num,HB5.out,HGOOD.out HOK.out⟩
         case measure=>simp [intOf];omega
        ·have HOK:Hid (lL (hn,hid,hsq)=false):=aa (by rw [HTA.out,hvb2,decide_eq_false hr2];rfl)
         have hr3:hsq<0∨(0≤hsq∧1048575<hsq):=by omega
         clear hvb2 hr2;rcases hr3 with s1 | ⟨s1,s2⟩
         all_goals
          go_wp2;go_ret2;exact ⟨by rw [dZ,HBAD.out HOK.out];rfl,HB5.out⟩
      ·have HR:Hid (qX g=0):=aa (by
        rw [HE.out,if_pos];rw [List.all_eq_true];intro x hx;obtain ⟨i,hi,rfl⟩:=List.getElem_of_mem hx;have:=HALL.out i (by omega)
        simpa [hi] using this)
       go_wp2;go_ret2;exact ⟨by rw [dZ,HR.out];rfl,hB⟩
    ·have htt:(eP g.tags != 0)=true:=by simpa using ht
     rw [if_pos ht] at HE;clear ht
     go_wp2_with fail
     go_ret2;exact ⟨by rw [dZ,HE.out];rfl,HB3.out⟩
   ·rw [if_pos hl] at HE
    have hl':8<g.Gb.length∨(g.Gb.length≤8∧32<g.F9.length)∨(g.Gb.length≤8∧g.F9.length≤32∧32<g.history.length):=by unfold iR at hl;omega
    clear hl;rcases hl' with l1 | ⟨l1,l2⟩ | ⟨l1,l2,l3⟩
    ·have d6:decide ((8:Int)<(g.Gb.length:Int))=true:=by simp;omega
     go_wp2;go_ret2;exact ⟨by rw [dZ,HE.out];rfl,HB2.out⟩
    ·have d6:decide ((8:Int)<(g.Gb.length:Int))=false:=by simp;omega
     have d7:decide ((32:Int)<(g.F9.length:Int))=true:=by simp;omega
     go_wp2;go_ret2;exact ⟨by rw [dZ,HE.out];rfl,HB2.out⟩
    ·have d6:decide ((8:Int)<(g.Gb.length:Int))=false:=by simp;omega
     have d7:decide ((32:Int)<(g.F9.length:Int))=false:=by simp;omega
     have d8:decide ((32:Int)<(g.history.length:Int))=true:=by simp;omega
     go_wp2;go_ret2;exact ⟨by rw [dZ,HE.out];rfl,HB2.out⟩
  ·rw [if_pos hr] at HE
   have hr':g.seq<0∨(0≤g.seq∧1048575<g.seq)∨(0≤g.seq∧g.seq≤1048575∧g.Gd<1)∨(0≤g.seq∧g.seq≤1048575∧1≤g.Gd∧1024<g.Gd)∨(0≤g.seq∧g.seq≤1048575∧1≤g.Gd∧g.Gd≤1024∧g.next<0)∨(0≤g.seq∧g.seq≤1048575∧1≤g.Gd∧g.Gd≤1024∧0≤g.next∧1073741824<g.next):=by unfold lm at hr;omega
   clear hr;rcases hr' with r1 | ⟨r1,r2⟩ | ⟨r1,r2,r3⟩ | ⟨r1,r2,r3,r4⟩ | ⟨r1,r2,r3,r4,r5⟩ | ⟨r1,r2,r3,r4,r5,r6⟩
   all_goals
    go_wp2;go_ret2;exact ⟨by rw [dZ,HE.out];rfl,HB2.out⟩
end Go.Proofs.YtjdfihglehfelaaGreatDoor
