/- Lemmas: ModJ, ModK, ModL, ModZ, NeeA. -/
import Derived.Test.YtjdfihglehfelaaGreatDoorPf20
set_option maxRecDepth 100000
set_option maxHeartbeats 32000000
set_option linter.all false
namespace Go.Proofs.YtjdfihglehfelaaGreatDoor
open Go.Proofs.Tryz
open Go.RowKit Go.Maps Go.Shelf
def aA (F9:List ay):List (ay × aB):=F9.flatMap fun v=>v.Gf.map fun s=>(v,s)
def bD (E:List (ay × aB)->ay->aB->Int):List (ay × aB)->List (ay × aB)->ByteArray × Int
 | _,[]=>(⟨#[]⟩,0)
 | pre,(v,s) :: r=>if E pre v s=0 then bD E (pre++[(v,s)]) r else (v.name,E pre v s)
theorem xB (F9:List ay)(k:Nat)(v:ay)(h:F9[k]?=some v):aA (F9.take (k+1))=aA (F9.take k)++v.Gf.map (fun s=>(v,s)):=by
 rw [take_snoc' F9 k v h];simp [aA]
theorem vI (F9:List ay)(k:Nat)(v:ay)(h:F9[k]?=some v)(j:Nat)(s:aB)(hs:v.Gf[j]?=some s) :
  aA F9=(aA (F9.take k)++(v.Gf.take j).map (fun s=>(v,s)))++(v,s) :: ((v.Gf.drop (j+1)).map (fun s=>(v,s))++aA (F9.drop (k+1))):=by
 obtain ⟨hk,hv⟩:=List.getElem?_eq_some_iff.1 h;obtain ⟨hj,hs'⟩:=List.getElem?_eq_some_iff.1 hs;conv=>lhs;rw [<- rk k F9,tB hk,hv]
 have e:v.Gf=v.Gf.take j++s :: v.Gf.drop (j+1):=by
  conv=>lhs;rw [<- rk j v.Gf,tB hj,hs']
 unfold aA;rw [xt,lB];conv=>lhs;rw [e]
 simp
def zY (ok F:Nat->Prop)(Qj:FuncId)(Nd:List Value)(F9:List ay)(E:List (ay × aB)->ay->aB->Int)(I:List (ay × aB)->World->Prop)(w:World):Prop :=
 ∀ (pre:List (ay × aB)) (v:ay) (s:aB) (post:List (ay × aB)),aA F9=pre++(v,s) :: post->∀ (W:World) (u1 u2:List Value),cR F w W->I pre W->aN ok W u1 v->bC ok W u2 s ->
  Calls prog Qj (Value.agg u1.toArray :: Value.agg u2.toArray :: Nd).toArray W fun e W'=>e=.returned (.int .i64 (E pre v s))/\cR F W W'/\(E pre v s=0->I (pre++[(v,s)]) W')
def Aa (F:Nat->Prop)(F9:List ay)(E:List (ay × aB)->ay->aB->Int)(I:List (ay × aB)->World->Prop)(w:World)(e:Ending)(w':World):Prop :=
 e=.returned (.tuple #[.string (bD E [] (aA F9)).1,.int .i64 (bD E [] (aA F9)).2])/\cR F w w'/\((bD E [] (aA F9)).2=0->I (aA F9) w')
theorem Mv.mod {ok F:Nat->Prop}{w w':World}(hm:cR F w w')(hF:∀ k,F k->¬ ok k):Mv ok ok w w':=⟨hm.size,fun b hb ho=>⟨ho,hm.block b hb (fun f=>hF b f ho)⟩⟩
def fV (F9:List ay)(k j:Nat)(v:ay):List (ay × aB):=(v.Gf.drop j).map (fun s=>(v,s))++aA (F9.drop (k+1))
def bW (F9:List ay)(k j:Nat)(v:ay):List (ay × aB):=aA (F9.take k)++(v.Gf.take j).map (fun s=>(v,s))
theorem jK (F9:List ay)(k:Nat)(v:ay)(h:F9[k]?=some v):aA (F9.drop k)=fV F9 k 0 v:=by
 obtain ⟨hk,hv⟩:=List.getElem?_eq_some_iff.1 h;unfold fV aA;rw [tB hk,hv,lB,cL]
theorem ku (F9:List ay)(k j:Nat)(v:ay)(s:aB)(hs:v.Gf[j]?=some s):fV F9 k j v=(v,s) :: fV F9 k (j+1) v:=by
 obtain ⟨hj,hs'⟩:=List.getElem?_eq_some_iff.1 hs;unfold fV;rw [tB hj,hs'];rfl
theorem lh (F9:List ay)(k:Nat)(v:ay):fV F9 k v.Gf.length v=aA (F9.drop (k+1)):=by
 unfold fV;rw [rB];rfl
theorem eQ (F9:List ay)(k:Nat)(v:ay):bW F9 k 0 v=aA (F9.take k):=by simp [bW]
theorem fG (F9:List ay)(k j:Nat)(v:ay)(s:aB)(hs:v.Gf[j]?=some s):bW F9 k (j+1) v=bW F9 k j v++[(v,s)]:=by
 unfold bW;rw [take_snoc' v.Gf j s hs];simp
theorem fJ (F9:List ay)(k:Nat)(v:ay)(h:F9[k]?=some v):bW F9 k v.Gf.length v=aA (F9.take (k+1)):=by
 unfold bW;rw [cI,xB F9 k v h]
theorem jB (F9:List ay)(k j:Nat)(v:ay)(s:aB)(h:F9[k]?=some v)(hs:v.Gf[j]?=some s):aA F9=bW F9 k j v++(v,s) :: fV F9 k (j+1) v:=vI F9 k v h j s hs
theorem wE {ok F:Nat->Prop}(Qj:FuncId)(Nd:List Value)(hfn:∀ (l:Array Value) (W:World),Sem.run prog (callFunc Qj l) W=.ok (.enter Qj l) W)(g:af)(a:bN)(bc:Nat)(E:List (ay × aB)->ay->aB->Int)(I:List (ay × aB)->World->Prop)(w:World)(kB:gY w bc g a)(hg:dN ok w g a)(hz:JT g)
  (hF:∀ k,F k->k<w.heap.size/\¬ ok k) (hI:∀ pre W W',I pre W->Below W.heap.size W W'->I pre W') (h0:I [] w) (hC:zY ok F Qj Nd g.F9 E I w) :
  Calls prog 141 #[.pointer (some ⟨bc,0,none⟩),.func (.func Qj) #[] Nd.toArray] w (Aa F g.F9 E I w):=by
 have jt:=kB.lt;have I5:=aa hfn;clear hfn;obtain ⟨sm,hblk,_⟩:=kB;have nw:Hid (bX w bc sm g a):=aa hblk;clear hblk;obtain ⟨g0,g1,g2,g3,g4,g5,g6,g7,g8⟩:=bX.cells nw.o;have HG:=aa hg.F9;have HZ:=aa hz;have mb:=hz.vl;obtain ⟨vp,vc,sT,Js,Jt⟩:=hg.F9.cap;have Ro:=aa hF;clear hF;have Yp:=aa hI;clear hI;have J5:=aa hC;clear hC;have H0:=aa h0;clear h0 hg hz;injection sT with e1 e2 e3
 obtain ⟨ID,IH,II,G3,G4,Ge,Hb,Hc⟩:=a;dsimp only at e1 e2 e3 g0 g1 g2 g3 g4 g5 g6 g7 g8;subst e1;subst e3;clear e2;go_enter func141,ntmps141;go_wp2;clear g0 g1 g2 g3 g4 g5 g6 g7 g8
 go_loopw [17] (fun i wr=>∃ k:Nat,k<=g.F9.length/\i=.int .i64 k/\cR F w wr/\I (aA (g.F9.take k)) wr/\bD E [] (aA g.F9)=bD E (aA (g.F9.take k)) (aA (g.F9.drop k))) (fun i _=>g.F9.length - (intOf i).toNat)
 case atStart=>exact ⟨0,cg _,rfl,cR.refl _ _,H0.o,rfl⟩
 case round =>
  clear H0;obtain ⟨k,hk,rfl,hm,hi,he⟩:=hrel;have HM:=aa hm;clear hm;have HI:=aa hi;clear hi;have HE:=aa he;clear he
  by_cases hlt:k<g.F9.length
  ·obtain ⟨v,hv⟩:=aj g.F9 k hlt
   obtain ⟨b,off,us,rfl,gR,cX,ez,eE,hcv⟩:=HG.o.elem hv;have My:=aa eE;have Ko:=HZ.o.vz v (ct hv);have GF:=Ko.Gf;obtain ⟨tv,sv,rfl,ew,fL⟩:=eE;obtain ⟨tp,tc,rfl,_,_⟩:=ew.cap;obtain ⟨sp,sc,rfl,hsc1,hsc2⟩:=fL.cap;have cT:wr.heap[b]?=w.heap[b]?:=HM.o.block b cX (fun f=>(Ro.o b f).2 gR);obtain ⟨q0,q1,q2,q3,q4,q5⟩:=NG cT hcv;have HV:=aa hv;clear hv;have JK:=aa fL;clear hcv ez cT ew fL Ko;have zv:=aa (b9 wr (.cells #[.string v.name,.int .u64 v.id,.bool v.hidden,.bool v.ro,.slice tp v.tags.length tc,.slice sp v.Gf.length sc] 55));have hA:=ae wr (.cells #[.string v.name,.int .u64 v.id,.bool v.hidden,.bool v.ro,.slice tp v.tags.length tc,.slice sp v.Gf.length sc] 55);have Nf:=aa (HM.o.trans (cR.of_below (F:=fun _=>False) hA) (fun _ f=>f.elim));have Qh:=aa (Yp.o _ _ _ HI.o hA);have mA:=HM.o.size;have VD:=aa (aq zv.o);clear hA;go_wp2;clear q0 q1 q2 q3 q4 q5;generalize hW1:World.alloc wr _=W1 at *;generalize JX:wr.heap.size=Bv at *;clear hW1 JX HI HM
   go_loopw [24] (fun i wi=>∃ j:Nat,j<=v.Gf.length/\i=.int .i64 j/\cR F w wi/\I (bW g.F9 k j v) wi/\bD E [] (aA g.F9)=bD E (bW g.F9 k j v) (fV g.F9 k j v)/\wi.heap[Bv]?=some (.cells #[.string v.name,.int .u64 v.id,.bool v.hidden,.bool v.ro,.slice tp v.tags.length tc,.slice sp v.Gf.length sc] 55 (0,0))) (fun i _=>v.Gf.length - (intOf i).toNat)
   case atStart=>exact ⟨0,cg _,rfl,Nf.o,by rw [eQ];exact Qh.o,by rw [HE.o,jK g.F9 k v HV.o,eQ],zv.o⟩
   case round =>
    clear Nf Qh HE zv VD;obtain ⟨j,hj,rfl,hm,hi,he,vA⟩:=hrel;have HM:=aa hm;clear hm;have HI:=aa hi;clear hi;have HE:=aa he;clear he;have zv:=aa vA;clear vA
    by_cases hlt2:j<v.Gf.length
    ·obtain ⟨s,hs⟩:=aj v.Gf j hlt2
     obtain ⟨b2,off2,us2,hsp,I0,C2,B5,C3,hcv2⟩:=JK.o.elem hs;subst hsp;have KF:=aa C3;obtain ⟨av,kp,rfl,gg,hst⟩:=C3;obtain ⟨ap,ac,rfl,_,_⟩:=gg.cap;obtain ⟨eN,eR,rfl,_,_⟩:=hst.cap;have AD:wr.heap[b2]?=w.heap[b2]?:=HM.o.block b2 C2 (fun f=>(Ro.o b2 f).2 I0);obtain ⟨q0,q1,q2,q3,q4,q5,q6,q7,q8,q9,q10⟩:=JG AD hcv2;have HS:=aa hs;clear hs
     have vL:=cr zv.o
     obtain ⟨v0,v1,v2,v3,v4,v5⟩:=JR vL;have hA:=ae wr (.cells #[.int .i64 s.start,.int .i64 s.length,.int .i64 s.kind,.slice ap s.Ga.length ac,.int .i64 s.chunk,.slice eN s.stale.length eR,.string s.log,.string s.pool,.int .i64 s.device,.int .i64 s.mode,.int .i64 s.done] 79);have DD:=aa (HM.o.trans (cR.of_below (F:=fun _=>False) hA) (fun _ f=>f.elim));have Qi:=aa (Yp.o _ _ _ HI.o hA);have hBz:=aq zv.o;have cm:=aa ((hA.block _ hBz).trans zv.o);clear hcv2 B5 AD gg hst vL hA
     go_wp2_with fail
     clear q0 q1 q2 q3 q4 q5 q6 q7 q8 q9 q10 v0 v1 v2 v3 v4 v5;generalize hW2:World.alloc wr _=W2 at *;clear hW2;have N5:=J5.o (bW g.F9 k j v) v s (fV g.F9 k (j+1) v) (jB g.F9 k j v s HV.o HS.o) W2 _ _ DD.o Qi.o (aN.moves.mv (Mv.mod DD.o (fun b f=>(Ro.o b f).2)) My.o) (bC.moves.mv (Mv.mod DD.o (fun b f=>(Ro.o b f).2)) KF.o);rw [I5.o];refine N5.mono ?_;clear N5;rintro e w3 ⟨rfl,hm3,hi3⟩;have N2:=aa hi3;clear hi3;have Rp:=aa (DD.o.trans hm3 (fun k f=>.inl f));have cJ:Hid (w3.heap[Bv]?=_):=aa ((hm3.block _ (aq cm.o) (fun f=>by have:=(Ro.o Bv f).1;omega)).trans cm.o)
     have Ng:Hid (bD E [] (aA g.F9)=if E (bW g.F9 k j v) v s=0 then bD E (bW g.F9 k (j+1) v) (fV g.F9 k (j+1) v) else (v.name,E (bW g.F9 k j v) v s)):=aa (by
      rw [HE.o,ku g.F9 k j v s HS.o,fG g.F9 k j v s HS.o]
      rfl)
     have VE:Hid (E (bW g.F9 k j v) v s=0->I (bW g.F9 k (j+1) v) w3):=aa (fun h=>by rw [fG g.F9 k j v s HS.o];exact N2.o h);have n0:=cr cJ.o 0 _ rfl
     clear hm3 N2 DD Qi cm HI HE;generalize E (bW g.F9 k j v) v s=x at *
     by_cases hx:x=0
     ·have qu:(x != 0)=false:=by simpa using hx
      have HX:=aa hx;clear hx;go_wp2;go_roundw
      case rel=>exact ⟨j+1,by omega,by go_num,Rp.o,VE.o HX.o,by rw [Ng.o,aw HX.o],cJ.o⟩
      case measure=>simp [intOf];omega
     ·have qu:(x != 0)=true:=by simpa using hx
      have HX:=aa hx;clear hx;go_wp2;go_ret2;exact ⟨by rw [Ng.o,bh HX.o];rfl,Rp.o,fun h=>absurd (by rw [Ng.o,bh HX.o] at h;exact h) HX.o⟩
    ·obtain rfl:j=v.Gf.length:=by omega
     have Ng:Hid (bD E [] (aA g.F9)=bD E (aA (g.F9.take (k+1))) (aA (g.F9.drop (k+1)))):=aa (by rw [HE.o,fJ g.F9 k v HV.o,lh]);have N2:Hid (I (aA (g.F9.take (k+1))) wr):=aa (by rw [<- fJ g.F9 k v HV.o];exact HI.o);clear HI HE;go_wp2;go_roundw
     case rel=>exact ⟨k+1,by omega,by go_num,HM.o,N2.o,Ng.o⟩
     case measure=>simp [intOf];omega
  ·obtain rfl:k=g.F9.length:=by omega
   have HR:Hid (bD E [] (aA g.F9)=(⟨#[]⟩,0)):=aa (by rw [HE.o,rB];rfl);have HIF:Hid (I (aA g.F9) wr):=aa (by have:=HI.o;rwa [cI] at this);go_wp2;go_ret2;exact ⟨by rw [HR.o];rfl,HM.o,fun _=>HIF.o⟩
theorem jZ {F9:List ay}{pre post:List (ay × aB)}{v:ay}{s:aB}(h:aA F9=pre++(v,s) :: post):v∈F9/\s∈v.Gf:=by
 have:(v,s)∈aA F9:=by rw [h];simp
 obtain ⟨v',hv,hs⟩:=List.mem_flatMap.1 this;obtain ⟨s',hs',e⟩:=List.mem_map.1 hs;injection e with e1 e2
 subst e1;subst e2;exact ⟨hv,hs'⟩
theorem cR.none {w w':World}(h:cR (fun _=>False) w w'):Below w.heap.size w w':=h.below (bk _) (fun _ f=>f.elim)
structure UQ (g:af):Prop where
 sz:JT g
 de:∀ d∈g.Gb,0<=d.Gc/\d.Gc<=1000000
 ext:1<=g.Gd/\g.Gd<=1024
 vn:∀ v∈g.F9,v.name.size<=1000000000
 sf:∀ v∈g.F9,∀ s∈v.Gf,wM s
def mY (g:af):ByteArray × Int:=bD (fun _ v s=>mM g v s) [] (aA g.F9)
def gX (r:ByteArray × Int)(w:World)(e:Ending)(w':World):Prop:=e=.returned (.tuple #[.string r.1,.int .i64 r.2])/\Below w.heap.size w w'
theorem rM {ok:Nat->Prop}(g:af)(a:bN)(bc:Nat)(w:World)(kB:gY w bc g a)(hg:dN ok w g a)(hf:UQ g)(hS:AW w) :
  Calls prog 87 #[.pointer (some ⟨bc,0,none⟩)] w (gX (mY g) w):=by
 have hA:=ae w (.cells #[.pointer (some ⟨bc,0,none⟩)] 137);have HB:=aa (b9 w (.cells #[.pointer (some ⟨bc,0,none⟩)] 137));have HA:=aa hA;clear hA;have I3:=aa (kB.below HA.o);have HG:=aa (hg.mv (Mv.of HA.o));have HS:=aa (hS.below HA.o);have HF:=aa hf;clear kB hg hS hf;go_enter func87,ntmps87
 go_wp2_with fail
 generalize hW1:World.alloc w _=W1 at *;generalize Uc:w.heap.size=Bc at *;clear hW1;refine (wE (ok:=ok) (F:=fun _=>False) 142 [.pointer (some ⟨Bc,0,none⟩)] (fun l W=>by go_simp) g a bc (fun _ v s=>mM g v s) (fun _ _=>True) W1 I3.o HG.o HF.o.sz (fun _ f=>f.elim) (fun _ _ _ _ _=>trivial) trivial ?_).mono ?_
 ·intro pre v s post hp W u1 u2 hm _ hv hs
  obtain ⟨m1,m2⟩:=jZ hp;have hb:=hm.none;refine (pK (ok:=ok) g a bc Bc v s u1 u2 W (I3.o.below hb) ((hb.cell (p:=⟨Bc,0,none⟩) (aq HB.o)).trans (by simp [World.cell?,HB.o])) (cC (aq HB.o) hb.size) (HG.o.mv (Mv.of hb)) HF.o.sz HF.o.de hv hs (HF.o.sf v m1 s m2) (HF.o.sz.vz v m1) (HS.o.below hb) (HF.o.vn v m1)).mono ?_;rintro e W' ⟨rfl,hb'⟩;exact ⟨rfl,cR.of_below hb',fun _=>trivial⟩
 ·rintro e w2 ⟨rfl,hm,_⟩
  have HM:=aa hm;clear hm;have HR:Hid (mY g=_):=aa (mY.eq_1 g);go_wp2;go_ret2;subst Uc;exact ⟨by rw [HR.o];rfl,HA.o.trans (HM.o.none.mono HA.o.size)⟩
def qV (ext:Int)(n:Nat):List aB->Int->Int
 | [],_=>0
 | s :: r,st=>if bJ ext s st=false then 2 else if 1<n/\(oO s.kind).several=false then 17 else qV ext n r (st+s.length)
def iM (f:ay->Int):List ay->ByteArray × Int
 | []=>(⟨#[]⟩,0)
 | v :: r=>if f v=0 then iM f r else (v.name,f v)
def DW (g:af)(v:ay):Int:=qV g.Gd v.Gf.length v.Gf 0
def iP (g:af):ByteArray × Int:=iM (DW g) g.F9
theorem drop_at {α:Type}{l:List α}{k:Nat}{x:α}(h:l[k]?=some x):l.drop k=x :: l.drop (k+1):=by
 obtain ⟨hk,rfl⟩:=List.getElem?_eq_some_iff.1 h;exact tB hk
theorem tC {f:ay->Int}{l:List ay}{k:Nat}{v:ay}(h:l[k]?=some v):iM f (l.drop k)=if f v=0 then iM f (l.drop (k+1)) else (v.name,f v):=by
 rw [drop_at h];rfl
theorem CP {ext:Int}{n:Nat}{l:List aB}{k:Nat}{s:aB}(h:l[k]?=some s)(st:Int):qV ext n (l.drop k) st=if bJ ext s st=false then 2 else if 1<n/\(oO s.kind).several=false then 17 else qV ext n (l.drop (k+1)) (st+s.length):=by
 rw [drop_at h];rfl
theorem BK {ext:Int}{s:aB}{st:Int}(h:bJ ext s st=true):1<=s.length/\s.length<=32768:=by
 cases hs:shapeOf s.kind with
 | none=>rw [jT hs] at h;cases h
 | some x =>
  rw [jP hs] at h;simp only [eh,fk] at h;omega
theorem vw (x:eX)(w:World):(Instr.field 183 (.agg #[.int .i64 x.least,.int .i64 x.greatest,.bool x.F9,.bool x.several,.int .i64 x.chunk,.bool x.stale,.bool x.pool,.bool x.log,.bool x.mode,.bool x.done]) 3).run prog w=.ok (.bool x.several) w:=by kernel_rfl
def Ct (g:af):Prop:=∀ v∈g.F9,∀ s∈v.Gf,(Lit.int .i64 s.kind).wf=true
theorem uR {ok:Nat->Prop}(g:af)(a:bN)(bc:Nat)(w:World)(kB:gY w bc g a)(hg:dN ok w g a)(hz:JT g)(hx:1<=g.Gd/\g.Gd<=1024)(TY:Ct g) :
  Calls prog 86 #[.pointer (some ⟨bc,0,none⟩)] w (gX (iP g) w):=by
 have jt:=kB.lt;have I3:=aa kB;obtain ⟨sm,hblk,hmap⟩:=kB;have nw:Hid (bX w bc sm g a):=aa hblk;have VF:Hid (w.cell? ⟨bc,9,none⟩=some (.map (some sm))):=aa (by simp [World.cell?,hblk]);have Qk:=aa hmap;clear hblk hmap;obtain ⟨g0,g1,g2,g3,g4,g5,g6,g7,g8⟩:=bX.cells nw.o;have HG:=aa hg.F9;have HZ:=aa hz;have HX:=aa hx;have HKW:=aa TY;have mb:=hz.vl;obtain ⟨vp,vc,sT,Js,Jt⟩:=hg.F9.cap;clear hg hz hx TY;injection sT with e1 e2 e3
 obtain ⟨ID,IH,II,G3,G4,Ge,Hb,Hc⟩:=a;dsimp only at e1 e2 e3 g0 g1 g2 g3 g4 g5 g6 g7 g8;subst e1;subst e3;clear e2;go_enter func86,ntmps86;go_wp2;clear g0 g1 g2 g3 g4 g5 g6 g7 g8
 go_loopw [15] (fun i wr=>∃ k:Nat,k<=g.F9.length/\i=.int .i64 k/\Below w.heap.size w wr/\iP g=iM (DW g) (g.F9.drop k)) (fun i _=>g.F9.length - (intOf i).toNat)
 case atStart=>exact ⟨0,cg _,rfl,bj _ _,rfl⟩
 case round =>
  obtain ⟨k,hk,rfl,hB,he⟩:=hrel;have HE:=aa he;clear he
  by_cases hlt:k<g.F9.length
  ·obtain ⟨v,hv⟩:=aj g.F9 k hlt
   rw [tC hv] at HE;obtain ⟨b,off,us,rfl,gR,cX,ez,eE,hcv⟩:=HG.o.elem hv;have K8:=ct hv;have Ko:=HZ.o.vz v K8;have GF:=Ko.Gf;have B6:=aa Ko.seg;have HKV:=aa (HKW.o v K8);obtain ⟨tv,sv,rfl,ew,fL⟩:=eE;obtain ⟨tp,tc,rfl,_,_⟩:=ew.cap;obtain ⟨sp,sc,rfl,hsc1,hsc2⟩:=fL.cap;have cT:wr.heap[b]?=w.heap[b]?:=hB.block b cX;obtain ⟨q0,q1,q2,q3,q4,q5⟩:=NG cT hcv;have HV:=aa hv;clear hv;have JK:=aa fL;clear hcv ez cT ew fL Ko K8;have zv:=aa (b9 wr (.cells #[.string v.name,.int .u64 v.id,.bool v.hidden,.bool v.ro,.slice tp v.tags.length tc,.slice sp v.Gf.length sc] 55));have cU:=aa (hB.trans ((ae wr (.cells #[.string v.name,.int .u64 v.id,.bool v.hidden,.bool v.ro,.slice tp v.tags.length tc,.slice sp v.Gf.length sc] 55)).mono hB.size));have mA:=hB.size;go_wp2;clear q0 q1 q2 q3 q4 q5;generalize hW1:World.alloc wr _=W1 at *;generalize JX:wr.heap.size=Bv at *;clear hW1 JX hB
   go_loopw [22,6] (fun i st wi=>∃ (j:Nat) (t:Int),j<=v.Gf.length/\i=.int .i64 j/\st=.int .i64 t/\0<=t/\t<=j*32768/\Below w.heap.size w wi/\DW g v=qV g.Gd v.Gf.length (v.Gf.drop j) t/\wi.heap[Bv]?=some (.cells #[.string v.name,.int .u64 v.id,.bool v.hidden,.bool v.ro,.slice tp v.tags.length tc,.slice sp v.Gf.length sc] 55 (0,0))) (fun i _ _=>v.Gf.length - (intOf i).toNat)
   case atStart=>exact ⟨0,0,cg _,rfl,rfl,by omega,by omega,cU.o,rfl,zv.o⟩
   case round =>
    clear cU zv;obtain ⟨j,t,hj,rfl,rfl,ht0,ht1,hB,OQ,vA⟩:=hrel;have JL:=aa OQ;clear OQ;have zv:=aa vA;clear vA
    by_cases hlt2:j<v.Gf.length
    ·obtain ⟨s,hs⟩:=aj v.Gf j hlt2
     rw [CP hs] at JL;obtain ⟨b2,off2,us2,hsp,I0,C2,B5,C3,hcv2⟩:=JK.o.elem hs;subst hsp;have KF:=aa C3;have hsm:=ct hs;have hsz:=B6.o s hsm;have hsz1:=hsz.1;have hsz2:=hsz.2;have Yq:=aa (HKV.o s hsm);obtain ⟨av,kp,rfl,gg,hst⟩:=C3;obtain ⟨ap,ac,rfl,_,_⟩:=gg.cap;obtain ⟨eN,eR,rfl,_,_⟩:=hst.cap;have AD:wr.heap[b2]?=w.heap[b2]?:=hB.block b2 C2;obtain ⟨q0,q1,q2,q3,q4,q5,q6,q7,q8,q9,q10⟩:=JG AD hcv2;clear hs hsm hsz hcv2 B5 AD gg hst;have lj:=aa (b9 wr (.cells #[.int .i64 s.start,.int .i64 s.length,.int .i64 s.kind,.slice ap s.Ga.length ac,.int .i64 s.chunk,.slice eN s.stale.length eR,.string s.log,.string s.pool,.int .i64 s.device,.int .i64 s.mode,.int .i64 s.done] 79));have hA:=ae wr (.cells #[.int .i64 s.start,.int .i64 s.length,.int .i64 s.kind,.slice ap s.Ga.length ac,.int .i64 s.chunk,.slice eN s.stale.length eR,.string s.log,.string s.pool,.int .i64 s.device,.int .i64 s.mode,.int .i64 s.done] 79);have cm:=aa (hB.trans (hA.mono hB.size));have J0:=aa ((hA.block _ (aq zv.o)).trans zv.o);clear hA
     go_wp2_with fail
     clear q0 q1 q2 q3 q4 q5 q6 q7 q8 q9 q10;generalize hW2:World.alloc wr _=W2 at *;generalize JY:wr.heap.size=Bs at *;clear hW2 JY;refine (ze (ok:=ok) g _ bc s t _ W2 (I3.o.below cm.o) (by have:=HX.o.1;omega) (by have:=HX.o.2;omega) (bC.moves.mv (Mv.of cm.o) KF.o) hsz1 hsz2 Yq.o).mono ?_;rintro e w3 ⟨rfl,hb3⟩;have cJ:=aa (cm.o.trans (hb3.mono cm.o.size));have pZ:=aa ((hb3.block _ (aq J0.o)).trans J0.o);have nB:=aa ((hb3.block _ (aq lj.o)).trans lj.o);clear hb3;have n0:=cr pZ.o 0 _ rfl;have n5:=cr pZ.o 5 _ rfl;have s1:=cr nB.o 1 _ rfl;have s2:=cr nB.o 2 _ rfl
     have c9:=(cJ.o.cell (p:=⟨bc,9,none⟩) jt).trans VF.o;cases hf:bJ g.Gd s t with
     | false =>
      have HR:Hid (iP g=(v.name,2)):=aa (by rw [HE.o,JL.o,aw hf,bh (by decide)]);go_wp2;go_ret2;exact ⟨by rw [HR.o];rfl,cJ.o⟩
     | true =>
      have ML:=BK hf;have aa5:=ML.1;have aa6:=ML.2;rw [hf,bh (by simp)] at JL;clear hf ML
      by_cases h1:1<v.Gf.length
      ·have hlk:∀ n,(Instr.lookup 138 (.map (some sm)) (.int .i64 s.kind) false).run prog (w3.drewN n)=.ok (jR (oO s.kind)) (w3.drewN n):=fun n=>by
        have hm:bi prog 3 (w3.drewN n) sm 10 eH:=Qk.o.block (cJ.o.block _ Qk.o.lt);have:=(hm.look pF underlying138 (uG _) (lA underlying3 Yq.o)).1
        rwa [uA] at this
       generalize JM:oO s.kind=x at *;have hlk':∀ n,(Instr.lookup 138 (.map (some sm)) (.int .i64 s.kind) false).run prog (w3.drewN n)=.ok (.agg #[.int .i64 x.least,.int .i64 x.greatest,.bool x.F9,.bool x.several,.int .i64 x.chunk,.bool x.stale,.bool x.pool,.bool x.log,.bool x.mode,.bool x.done]) (w3.drewN n):=hlk;clear hlk JM;have N4:=vw x;have hd1:decide ((1:Int)<(v.Gf.length:Int))=true:=by simp;omega
       go_upto_region 10 with (fail)
       go_quiet (fail);clear hlk' N4;cases IZ:x.several with
       | true =>
        rw [bh (fun h=>by rw [IZ] at h;cases h.2)] at JL
        go_wp2;go_roundw
        case rel=>exact ⟨j+1,t+s.length,by omega,by go_num,rfl,by omega,by push_cast;omega,aT cJ.o _,JL.o,pZ.o⟩
        case measure=>simp [intOf];omega
       | false =>
        rw [aw ⟨h1,IZ⟩] at JL;have HR:Hid (iP g=(v.name,17)):=aa (by rw [HE.o,JL.o,bh (by decide)]);go_wp2;go_ret2;exact ⟨by rw [HR.o];rfl,aT cJ.o _⟩
      ·have hd1:decide ((1:Int)<(v.Gf.length:Int))=false:=by simp;omega
       rw [bh (fun h=>h1 h.1)] at JL
       go_upto_region 10 with (fail)
       go_quiet (fail);go_wp2;go_roundw
       case rel=>exact ⟨j+1,t+s.length,by omega,by go_num,rfl,by omega,by push_cast;omega,aT cJ.o _,JL.o,pZ.o⟩
       case measure=>simp [intOf];omega
    ·obtain rfl:j=v.Gf.length:=by omega
     have HR:Hid (iP g=iM (DW g) (g.F9.drop (k+1))):=aa (by rw [HE.o,aw (by rw [JL.o,rB];rfl)]);go_wp2;go_roundw
     case rel=>exact ⟨k+1,by omega,by go_num,hB,HR.o⟩
     case measure=>simp [intOf];omega
  ·obtain rfl:k=g.F9.length:=by omega
   have HR:Hid (iP g=(⟨#[]⟩,0)):=aa (by rw [HE.o,rB];rfl);go_wp2;go_ret2;exact ⟨by rw [HR.o];rfl,hB⟩
theorem cR.grown {w w':World}{b:Nat}(g:w.grownBy w' (some b)):cR (fun k=>k=b) w w':=⟨g.os,g.tape,g.output,g.size,fun k hk hne=>g.block k hk (fun e=>hne (by injection e))⟩
def NK (M:List (ByteArray × Int × Int))(nm:ByteArray)(i:Nat):Bool:=M.any fun m=>decide (m.1=nm)&&(decide (m.2.1<=(i:Int))&&decide ((i:Int)<m.2.1+m.2.2))
def bz (M:List (ByteArray × Int × Int))(d:az):List Bool:=(List.range d.Gc.toNat).map (NK M d.name)
def tV (M:List (ByteArray × Int × Int))(nm:ByteArray)(st n:Int):Bool:=(List.range n.toNat).any fun j=>NK M nm (st.toNat+j)
def nP (n:Int):List (ByteArray × Int × Int)->List aR->Bool
 | _,[]=>false
 | M,a :: r=>if a.vol=true then nP n M r else if tV M a.on a.start n=true then true else nP n (M++[(a.on,a.start,n)]) r
def dC (n:Int)(l:List aR):List (ByteArray × Int × Int):=(l.filter fun a=>!a.vol).map fun a=>(a.on,a.start,n)
def aX (s:aB):Int:=iB s.kind s.length s.Ga.length
def lU (pre:List (ay × aB)):List (ByteArray × Int × Int):=pre.flatMap fun p=>dC (aX p.2) p.2.Ga
def CQ (pre:List (ay × aB))(_:ay)(s:aB):Int:=if nP (aX s) (lU pre) s.Ga=true then 15 else 0
def BL (pre:List (ay × aB))(_:ay)(s:aB):Int:=if s.kind=6 then (if pre.any (fun p=>decide (p.2.kind=6)&&(decide (p.2.pool=s.pool)&&decide (p.2.device=s.device)))=true then 9 else 0) else 0
def pE (g:af):ByteArray × Int:=if (bD CQ [] (aA g.F9)).2=0 then bD BL [] (aA g.F9) else bD CQ [] (aA g.F9)
theorem nO (M:List (ByteArray × Int × Int))(m:ByteArray × Int × Int)(nm:ByteArray)(i:Nat):NK (M++[m]) nm i=(NK M nm i||(decide (m.1=nm)&&(decide (m.2.1<=(i:Int))&&decide ((i:Int)<m.2.1+m.2.2)))):=by
 unfold NK;rw [rj];simp
theorem gP (M:List (ByteArray × Int × Int))(d:az):(bz M d).length=d.Gc.toNat:=by simp [bz]
theorem gU {M:List (ByteArray × Int × Int)}{d:az}{i:Nat}(h:i<d.Gc.toNat):(bz M d)[i]?=some (NK M d.name i):=by simp [bz,h]
theorem lQ (M:List (ByteArray × Int × Int))(d:az)(m:ByteArray × Int × Int)(h:¬ m.1=d.name):bz (M++[m]) d=bz M d:=by
 unfold bz;refine List.map_congr_left fun i _=>?_;rw [nO];simp [h]
theorem vQ (M:List (ByteArray × Int × Int))(d:az)(nm:ByteArray)(st:Int):bz (M++[(nm,st,0)]) d=bz M d:=by
 unfold bz;refine List.map_congr_left fun i _=>?_;rw [nO]
 have:(decide (st<=(i:Int))&&decide ((i:Int)<st+0))=false:=by
  rw [<- Bool.decide_and];exact cN (by omega)
 simp only [this,Bool.and_false,Bool.or_false]
theorem xH (M:List (ByteArray × Int × Int))(d:az)(st:Int)(j:Nat)(h0:0<=st):(bz (M++[(d.name,st,(j:Int))]) d).set (st.toNat+j) true=bz (M++[(d.name,st,((j+1:Nat):Int))]) d:=by
 refine Bk fun i=>?_;rw [List.getElem?_set]
 by_cases hi:i<d.Gc.toNat
 ·rw [gU hi,gU hi,gP]
  rw [nO,nO];simp only [decide_true,Bool.true_and,<- Bool.decide_and];split
  ·rename_i e
   subst e;rw [aw hi];have:decide (st<=((st.toNat+j:Nat):Int)/\((st.toNat+j:Nat):Int)<st+((j+1:Nat):Int))=true:=eA (by omega);rw [this,Bool.or_true]
  ·rename_i e
   congr 1
   have:(st<=(i:Int)/\(i:Int)<st+(j:Int))↔(st<=(i:Int)/\(i:Int)<st+((j+1:Nat):Int)):=by omega
   simp only [this]
 ·have h1:∀ M',(bz M' d)[i]?=none:=fun M'=>xj (by rw [gP];omega)
  rw [h1,h1,gP];split
  ·rename_i e
   subst e;rw [bh hi]
  ·rfl
theorem D5 (M:List (ByteArray × Int × Int))(d:az)(st n:Int)(h0:0<=st)(hn:0<=n)(h:st+n<=d.Gc):(((bz M d).drop st.toNat).take n.toNat).any id=tV M d.name st n:=by
 have e:((bz M d).drop st.toNat).take n.toNat=(List.range n.toNat).map fun j=>NK M d.name (st.toNat+j):=by
  refine Bk fun i=>?_;rw [xF]
  by_cases hi:i<n.toNat
  ·rw [aw hi,pk,gU (by omega)]
   simp [hi]
  ·rw [bh hi]
   exact (xj (by rw [fW,List.length_range];omega)).symm
 rw [e];unfold tV;rw [List.any_map];rfl
theorem xC (n:Int)(l:List aR)(k:Nat)(a:aR)(h:l[k]?=some a):dC n (l.take (k+1))=if a.vol=true then dC n (l.take k) else dC n (l.take k)++[(a.on,a.start,n)]:=by
 rw [take_snoc' l k a h];unfold dC;cases hv:a.vol <;> simp [hv]
theorem Ee (n:Int)(M:List (ByteArray × Int × Int)){l:List aR}{k:Nat}{a:aR}(h:l[k]?=some a):nP n M (l.drop k)=if a.vol=true then nP n M (l.drop (k+1)) else if tV M a.on a.start n=true then true else nP n (M++[(a.on,a.start,n)]) (l.drop (k+1)):=by
 rw [drop_at h];rfl
def vG (L:List (az × Nat)):Value->Option Value
 | .string s=>(L.find? fun p=>decide (p.1.name=s)).map fun p=>.slice (some ⟨p.2,0,none⟩) p.1.Gc.toNat p.1.Gc.toNat
 | _=>none
theorem Av (L:List (az × Nat))(d:az)(b:Nat)(h:∀ p∈L,¬ p.1.name=d.name)(key:Value):vG (L++[(d,b)]) key=upd (vG L) (.string d.name) (.slice (some ⟨b,0,none⟩) d.Gc.toNat d.Gc.toNat) key:=by
 by_cases hk:key=.string d.name
 ·subst hk
  rw [upd_same];show ((L++[(d,b)]).find? fun p=>decide (p.1.name=d.name)).map _=_;rw [tD,List.find?_eq_none.2 (fun p hp=>by simpa using h p hp)];simp
 ·rw [bP hk]
  unfold vG;split
  ·rename_i s
   have:¬ d.name=s:=fun e=>hk (by rw [e]);rw [tD];simp [this]
  ·rfl
theorem Dv {L:List (az × Nat)}{nm:ByteArray}{d:az}(h:bH (L.map (·.1)) nm=some d):∃ b,(d,b)∈L/\d.name=nm/\vG L (.string nm)=some (.slice (some ⟨b,0,none⟩) d.Gc.toNat d.Gc.toNat):=by
 unfold bH at h;rw [List.find?_map] at h;obtain ⟨p,hp,rfl⟩:=Option.map_eq_some_iff.1 h;refine ⟨p.2,eV hp,by simpa using List.find?_some hp,?_⟩;have e:(fun p:az × Nat=>decide (p.1.name=nm))=((fun d:az=>decide (d.name=nm)) ∘ fun x:az × Nat=>x.1):=rfl;show (L.find? fun p=>decide (p.1.name=nm)).map _=_;rw [e,hp];rfl
def bI (l:List ByteArray)(x:ByteArray):Bool:=l.any fun y=>decide (y=x)
theorem ny {l:List ByteArray}{x:ByteArray}:bI l x=true↔x∈l:=by
 unfold bI;rw [nh];exact ⟨fun ⟨y,hy,e⟩=>by rw [<- of_decide_eq_true e];exact hy,fun h=>⟨x,h,by simp⟩⟩
theorem lX {l:List ByteArray}{x:ByteArray}:bI l x=false↔x ∉ l:=by
 rw [<- ny];exact Bool.eq_false_iff
theorem fU (l:List ByteArray)(x y:ByteArray):bI (l++[x]) y=(bI l y||decide (x=y)):=by
 unfold bI;rw [rj];simp
def rQ (s:aB):List ByteArray:=((s.Ga.filter (·.vol)).map (·.on))++(if s.log.toList.isEmpty then [] else [s.log])++(if s.pool.toList.isEmpty then [] else [s.pool])
def kY (v:ay):List ByteArray:=v.Gf.flatMap rQ
def dU (F9:List ay)(nm:ByteArray):Option (List ByteArray):=(aM F9 nm).map kY
inductive Reach (lk:ByteArray->Option (List ByteArray))(l0:List ByteArray):ByteArray->Prop
 | base {x:ByteArray}:x∈l0->(lk x).isSome=true->Reach lk l0 x
 | step {x y:ByteArray} {l:List ByteArray}:Reach lk l0 y->lk y=some l->x∈l->(lk x).isSome=true->Reach lk l0 x
structure nX (lk:ByteArray->Option (List ByteArray))(l0 met todo:List ByteArray):Prop where
 m:∀ x∈met,Reach lk l0 x
 t:∀ x∈todo,(lk x).isSome=true->Reach lk l0 x
 b:∀ x∈l0,(lk x).isSome=true->x∈met\/x∈todo
 c:∀ y∈met,∀ l,lk y=some l->∀ x∈l,(lk x).isSome=true->x∈met\/x∈todo
variable {lk:ByteArray->Option (List ByteArray)}{l0 met todo:List ByteArray}
theorem nX.start:nX lk l0 [] l0:=⟨fun _ h=>absurd h (by simp),fun _ h hs=>Reach.base h hs,fun _ h _=>Or.inr h,fun _ h=>absurd h (by simp)⟩
theorem nX.done (h:nX lk l0 met [])(x:ByteArray):x∈met↔Reach lk l0 x:=by
 refine ⟨h.m x,fun r=>?_⟩
 induction r with
 | base h1 h2=>exact (h.b _ h1 h2).elim id fun q=>by cases q
 | step _ h2 h3 h4 ih=>exact (h.c _ ih _ h2 _ h3 h4).elim id fun q=>by cases q
theorem nX.skip {x:ByteArray}(h:nX lk l0 met (todo++[x]))(hx:(lk x).isSome=false\/x∈met):nX lk l0 met todo:=by
 have key:∀ y,(lk y).isSome=true->y∈met\/y∈todo++[x]->y∈met\/y∈todo:=fun y hs q=>by
  rcases q with q | q
  ·exact .inl q
  ·rcases List.mem_append.1 q with q | q
   ·exact .inr q
   ·obtain rfl:=List.mem_singleton.1 q
    rcases hx with e | e
    ·rw [e] at hs;cases hs
    ·exact .inl e
 exact ⟨h.m,fun y hy=>h.t y (ju _ hy),fun y hy hs=>key y hs (h.b y hy hs),fun y hy l hl z hz hs=>key z hs (h.c y hy l hl z hz hs)⟩
theorem nX.more {x:ByteArray}{l:List ByteArray}(h:nX lk l0 met (todo++[x]))(hx:lk x=some l):nX lk l0 (met++[x]) (todo++l):=by
 have hr:Reach lk l0 x:=h.t x (by simp) (by rw [hx];rfl)
 have key:∀ y,y∈met\/y∈todo++[x]->y∈met++[x]\/y∈todo++l:=fun y q=>by
  rcases q with q | q
  ·exact .inl (ju _ q)
  ·rcases List.mem_append.1 q with q | q
   ·exact .inr (ju _ q)
   ·exact .inl (Cw _ q)
 refine ⟨fun y hy=>?_,fun y hy hs=>?_,fun y hy hs=>key y (h.b y hy hs),fun y hy k hk z hz hs=>?_⟩
 ·rcases List.mem_append.1 hy with q | q
  ·exact h.m y q
  ·obtain rfl:=List.mem_singleton.1 q
   exact hr
 ·rcases List.mem_append.1 hy with q | q
  ·exact h.t y (ju _ q) hs
  ·exact .step hr hx q hs
 ·rcases List.mem_append.1 hy with q | q
  ·exact key z (h.c y q k hk z hz hs)
  ·obtain rfl:=List.mem_singleton.1 q
   rw [hx] at hk;injection hk with e
   subst e;exact .inr (Cw _ hz)
def nK (names:List ByteArray)(U:Nat)(met todo:List ByteArray):Nat:=(names.filter fun n=>!bI met n).length*(U+1)+todo.length
theorem lw (names:List ByteArray)(U:Nat)(met todo:List ByteArray)(x:ByteArray):nK names U met todo<nK names U met (todo++[x]):=by
 unfold nK;rw [cD];simp
theorem kQ {α:Type}{p q:α->Bool}:∀ {l:List α} {x:α},(∀ y,q y=true->p y=true)->x∈l->p x=true->q x=false->(l.filter q).length<(l.filter p).length
 | [],_,_,hx,_,_=>by cases hx
 | a :: l,x,Qa,hx,hp,hq=>by
  have hle:(l.filter q).length<=(l.filter p).length:=by
   have e:l.filter q=(l.filter p).filter q:=by
    rw [List.filter_filter];refine A0 fun y _=>?_;cases h:q y <;> simp [h,Qa y]
   rw [e];exact tk ..
  by_cases e:x=a
  ·subst e
   simp only [List.filter_cons,hp,hq,ej,pj,fY,cS];omega
  ·have hx':x∈l:=(List.mem_cons.1 hx).resolve_left e
   have ih:=kQ Qa hx' hp hq
   by_cases ha:q a=true
   ·simp only [List.filter_cons,ha,Qa a ha,ej,cS]
    omega
   ·simp only [List.filter_cons,ha,fY,pj]
    split
    ·rw [cS];omega
    ·omega
theorem Ap (names:List ByteArray)(U:Nat)(met todo l:List ByteArray)(x:ByteArray)(hx:x∈names)(hm:x ∉ met)(hl:l.length<=U):nK names U (met++[x]) (todo++l)<nK names U met (todo++[x]):=by
 unfold nK;have h:=kQ (p:=fun n=>!bI met n) (q:=fun n=>!bI (met++[x]) n) (l:=names) (x:=x) (fun y hy=>by rw [fU] at hy;cases h:bI met y <;> simp [h] at hy ⊢) hx (by rw [lX.2 hm];rfl) (by rw [fU];simp)
 generalize (names.filter fun n=>!bI met n).length=a at *;generalize (names.filter fun n=>!bI (met++[x]) n).length=b at *;have:(b+1)*(U+1)<=a*(U+1):=tA _ h;rw [Nat.succ_mul] at this;simp only [cD,A4];omega
def BG (names met:List ByteArray):Nat:=(names.filter fun n=>!bI met n).length
theorem Bn (names met:List ByteArray)(x:ByteArray)(hx:x∈names)(hm:x ∉ met):BG names (met++[x])<BG names met :=
 kQ (p:=fun n=>!bI met n) (q:=fun n=>!bI (met++[x]) n) (l:=names) (x:=x) (fun y hy=>by rw [fU] at hy;cases h:bI met y <;> simp [h] at hy ⊢) hx (by rw [lX.2 hm];rfl) (by rw [fU];simp)
theorem Ae (names met:List ByteArray):BG names met<=names.length:=tk ..
def oN (met:List ByteArray):Value->Option Value
 | .string s=>if bI met s=true then some (.bool true) else none
 | _=>none
theorem xk (met:List ByteArray)(s:ByteArray):(oN met (.string s)).getD (.bool false)=.bool (bI met s):=by
 show (if bI met s=true then some (Value.bool true) else none).getD (.bool false)=_;cases h:bI met s <;> simp
theorem uH (met:List ByteArray)(x:ByteArray)(key:Value):oN (met++[x]) key=upd (oN met) (.string x) (.bool true) key:=by
 by_cases h:key=.string x
 ·subst h
  rw [upd_same];simp [oN,fU]
 ·rw [bP h]
  unfold oN;split
  ·rename_i s
   have:¬ x=s:=fun e=>h (by rw [e]);rw [fU];simp [this]
  ·rfl
def gD {α:Type}(nm:α->ByteArray)(p:ByteArray->Bool)(l:List α):List ByteArray:=l.foldl (fun out x=>if (p (nm x)&&!bI out (nm x))=true then out++[nm x] else out) []
theorem rJ {α:Type}(nm:α->ByteArray)(p:ByteArray->Bool){l:List α}{k:Nat}{x:α}(h:l[k]?=some x):gD nm p (l.take (k+1))=if (p (nm x)&&!bI (gD nm p (l.take k)) (nm x))=true then gD nm p (l.take k)++[nm x] else gD nm p (l.take k):=by
 rw [take_snoc' l k x h];unfold gD;rw [List.foldl_append];rfl
theorem lq {α:Type}(nm:α->ByteArray)(p:ByteArray->Bool)(l:List α):(gD nm p l).length<=l.length:=by
 have:∀ (l:List α) (o:List ByteArray),(l.foldl (fun out x=>if (p (nm x)&&!bI out (nm x))=true then out++[nm x] else out) o).length<=o.length+l.length:=by
  intro l
  induction l with
  | nil=>intro o;simp
  | cons x l ih =>
   intro o;rw [cF,cS];refine cA (ih _) ?_;split
   ·rw [cD,A4];omega
   ·omega
 simpa [gD] using this l []
open Classical in
noncomputable def Fj (F9:List ay)(nm x:ByteArray):Bool:=decide (x=nm\/Reach (dU F9) ((dU F9 nm).getD []) x)
noncomputable def mR (F9:List ay)(nm:ByteArray):List ByteArray:=gD ay.name (Fj F9 nm) F9
def onS (d:ByteArray)(s:aB):Bool:=s.Ga.any fun a=>decide (a.on=d)&&!a.vol
def XZ (F9:List ay)(d x:ByteArray):Bool:=((aM F9 x).getD eY).Gf.any (onS d)
noncomputable def sP (g:af)(nm:ByteArray):List ByteArray:=gD az.name (fun d=>(mR g.F9 nm).any (XZ g.F9 d)) g.Gb
end Go.Proofs.YtjdfihglehfelaaGreatDoor
