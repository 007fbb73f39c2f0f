/- Lemmas: ModD, ModE. -/
import Derived.Test.YtjdfihglehfelaaGreatDoorPf15
import Derived.Test.YtjdfihglehfelaaGreatDoorPf16
import Derived.Test.YtjdfihglehfelaaGreatDoorPf13
set_option maxRecDepth 100000
set_option maxHeartbeats 32000000
set_option linter.all false
namespace Go.Proofs.YtjdfihglehfelaaGreatDoor
open Go.Proofs.Tryz
open Go.RowKit Go.Maps Go.Shelf
def aM (F9:List ay)(nm:ByteArray):Option ay:=F9.find? fun v=>decide (v.name=nm)
def eY:ay:=⟨⟨#[]⟩,0,false,false,[],[]⟩
def F8 (ok:Nat->Prop)(F9:List ay)(nm:ByteArray)(w:World)(e:Ending)(w':World):Prop :=
 ∃ u,e=.returned (.tuple #[.agg u.toArray,.bool (aM F9 nm).isSome])/\D8 ok ((aM F9 nm).getD eY) w u w'
theorem yV {F9:List ay}{nm:ByteArray}(h:∀ (j:Nat) (v:ay),j<F9.length->F9[j]?=some v->¬ v.name=nm):aM F9 nm=none:=by
 unfold aM;rw [List.find?_eq_none];intro v hv;obtain ⟨j,hj⟩:=fc hv;simpa using h j v (List.getElem?_eq_some_iff.1 hj).1 hj
theorem CW {F9:List ay}{nm:ByteArray}{k:Nat}{v:ay}(hno:∀ (j:Nat) (u:ay),j<k->F9[j]?=some u->¬ u.name=nm)(h:F9[k]?=some v)(e:v.name=nm):aM F9 nm=some v:=by
 unfold aM;rw [List.find?_eq_some_iff_getElem];obtain ⟨hk,hv⟩:=List.getElem?_eq_some_iff.1 h;exact ⟨by simpa using e,k,hk,hv,fun j hj=>by simpa using hno j _ hj (lO (by omega))⟩
theorem fA {ok:Nat->Prop}(g:af)(a:bN)(nm:ByteArray)(w:World)(hr:ck aN 6 ok w [.slice a.vp g.F9.length a.vc] g.F9)(hd:g.F9.length<=1000000)(hz:∀ v∈g.F9,qD v) :
  Calls prog 95 #[.agg (uY g a).toArray,.string nm] w (F8 ok g.F9 nm w):=by
 obtain ⟨ID,IH,II,G3,G4,Ge,Hb,Hc⟩:=a;dsimp only [uY] at hr ⊢;have HR:=aa hr;clear hr;have HT:=aa hz;clear hz;go_enter func95,ntmps95;go_wp2
 go_loopw [11] (fun i wr=>∃ k:Nat,k<=g.F9.length/\i=.int .i64 k/\(∀ j D,j<k->g.F9[j]?=some D->¬ D.name=nm)/\Below w.heap.size w wr/\w.heap.size+1<wr.heap.size/\wr.heap[w.heap.size+1]?=some (.cells #[.string ⟨#[]⟩,.int .u64 0,.bool false,.bool false,.slice none 0 0,.slice none 0 0] 55 (0,0))) (fun i _=>g.F9.length - (intOf i).toNat)
 case atStart =>
  refine ⟨0,cg _,rfl,(fun j D hj=>by omega),((bj _ _).alloc (bk _) _).alloc (by simp) _,by simp,?_⟩;have:=b9 (w.alloc (.cells #[.string g.name,.int .u64 g.id,.int .i64 g.seq,.int .i64 g.Gd,.int .i64 g.next,.slice ID g.tags.length IH,.slice II g.Gb.length G3,.slice G4 g.F9.length Ge,.slice Hb g.history.length Hc] 31)) (.cells #[.string ⟨#[]⟩,.int .u64 0,.bool false,.bool false,.slice none 0 0,.slice none 0 0] 55);rw [cW] at this;exact this
 case round =>
  obtain ⟨k,hk,rfl,hno,hB,hz,hR⟩:=hrel;have IW:=aa hno;clear hno
  by_cases hlt:k<g.F9.length
  ·obtain ⟨v,hv⟩:=aj g.F9 k hlt
   have hsz:=HT.o v (ct hv);have Jq:=aa hsz;clear hsz;obtain ⟨b,off,u,rfl,gR,cX,ez,sA,hcv⟩:=HR.o.elem hv;have My:=aa sA;obtain ⟨tv,sv,rfl,ew,fL⟩:=sA;obtain ⟨tp,tc,rfl,_,_⟩:=ew.cap;obtain ⟨sp,sc,rfl,_,_⟩:=fL.cap;have cT:wr.heap[b]?=w.heap[b]?:=hB.block b cX;obtain ⟨q0,q1,q2,q3,q4,q5⟩:=NG cT hcv;have HD:=aa hv;clear hv;have yi:=aa hR;clear hR;clear hcv ez cT ew fL
   by_cases pD:v.name=nm
   ·have G2:=ae wr (.cells #[.string nm,.int .u64 v.id,.bool v.hidden,.bool v.ro,.slice tp v.tags.length tc,.slice sp v.Gf.length sc] 55)
    have MW:=aa ((G2.block _ hz).trans yi.o);have pL:=aa (hB.trans (G2.mono (by omega)));clear G2;have K4:=aa pD
    go_wp2_with fail
    generalize DA:wr.alloc _=WA at *;clear DA
    have sA:aN (fun b=>ok b/\b<w.heap.size) WA [.string nm,.int .u64 v.id,.bool v.hidden,.bool v.ro,.slice tp v.tags.length tc,.slice sp v.Gf.length sc] v:=by
     have:=aN.moves.mv (ok':=fun b=>ok b/\b<w.heap.size) ⟨pL.o.size,fun b hb ho=>⟨⟨ho,hb⟩,pL.o.block b hb⟩⟩ My.o
     rwa [K4.o] at this
    have HWZ:=aa pL.o.size;refine (pO (ok:=fun b=>ok b/\b<w.heap.size) v _ _ sA Jq.o).mono ?_;rintro e w3 ⟨u3,rfl,hn3,hb3⟩;obtain ⟨Ym,JF,rfl,Fk,O0⟩:=hn3;have Yn:=aa (show aN _ w3 _ v from ⟨Ym,JF,rfl,Fk,O0⟩);obtain ⟨tp3,tc3,rfl,_,_⟩:=Fk.cap;obtain ⟨sp3,sc3,rfl,_,_⟩:=O0.cap;clear Fk O0;have hr3:=(hb3.block _ (aq MW.o)).trans MW.o
    have rL:=cr hr3
    obtain ⟨r0,r1,r2,r3,r4,r5⟩:=JR rL;have rf:=sr hr3
    have cJ:=aa (pL.o.trans (hb3.mono pL.o.size));have Qf:=aa (aq MW.o);have aa3:=aa hb3;clear rL hr3 hb3;have CM:Hid (aM g.F9 nm=some v):=aa (CW IW.o HD.o K4.o);have O1:=Yn;rw [K4.o] at O1
    have I4:Hid (∀ wf:World,(∀ b,b≠w.heap.size+1->wf.heap[b]?=w3.heap[b]?)->wf.heap.size=w3.heap.size->Below w.heap.size w wf->D8 ok ((aM g.F9 nm).getD eY) w [.string nm,.int .u64 v.id,.bool v.hidden,.bool v.ro,.slice tp3 v.tags.length tc3,.slice sp3 v.Gf.length sc3] wf):=aa fun wf hk hz hb=>by
     rw [CM.o];refine ⟨aN.moves.mv ⟨by omega,fun b hb' ho=>?_⟩ O1.o,hb⟩;have KC:(ok b/\b<w.heap.size)\/WA.heap.size<=b:=ho;have:=HWZ.o;have:=Qf.o;exact ⟨KC.imp (fun q=>q.1) (fun q=>by omega),hk b (by rcases KC with q | q <;> omega)⟩
    clear Yn O1 My HD;go_wp2;refine eC (v:=.tuple #[.agg #[.string nm,.int .u64 v.id,.bool v.hidden,.bool v.ro,.slice tp3 v.tags.length tc3,.slice sp3 v.Gf.length sc3],.bool true]) (by simp [results,Tryz.results95,go_sem,r0,r1,r2,r3,r4,r5]) rfl ⟨[.string nm,.int .u64 v.id,.bool v.hidden,.bool v.ro,.slice tp3 v.tags.length tc3,.slice sp3 v.Gf.length sc3],by rw [CM.o];rfl,I4.o _ (fun b hb=>?_) ?_ ?_⟩
    ·rw [bw _ _ _ _ hb,bw _ _ _ _ hb,bw _ _ _ _ hb,bw _ _ _ _ hb,bw _ _ _ _ hb,bw _ _ _ _ hb]
    ·simp [World.setCell]
    ·have hL:∀ (V:World) (o:Nat) (z:Value),Below w.heap.size w V->Below w.heap.size w (V.setCell ⟨w.heap.size+1,o,none⟩ z):=fun V o z q=>q.setCell (p:=⟨w.heap.size+1,o,none⟩) (by show w.heap.size<=w.heap.size+1;omega) z
     exact hL _ _ _ (hL _ _ _ (hL _ _ _ (hL _ _ _ (hL _ _ _ (hL _ _ _ cJ.o)))))
   ·have e1:=jI pD
    go_wp2;go_roundw
    case rel =>
     refine ⟨k+1,by omega,by go_num,fun j E hj hE=>?_,hB.alloc (by omega) _,by simp;omega,(cj _ _ _ (by omega)).trans yi.o⟩
     by_cases hjk:j=k
     ·subst hjk
      rw [HD.o] at hE;injection hE with hE
      rw [<- hE];exact pD
     ·exact IW.o j E (by omega) hE
    case measure=>simp [intOf];omega
  ·obtain rfl:k=g.F9.length:=by omega
   have rL:=cr hR
   obtain ⟨r0,r1,r2,r3,r4,r5⟩:=JR rL;have rf:=sr hR
   clear rL hR;have CM:Hid (aM g.F9 nm=none):=aa (yV IW.o);go_wp2;refine eC (v:=.tuple #[.agg #[.string ⟨#[]⟩,.int .u64 0,.bool false,.bool false,.slice none 0 0,.slice none 0 0],.bool false]) (by simp [results,Tryz.results95,go_sem,r0,r1,r2,r3,r4,r5]) rfl ⟨[.string ⟨#[]⟩,.int .u64 0,.bool false,.bool false,.slice none 0 0,.slice none 0 0],by rw [CM.o];rfl,by rw [CM.o];exact ⟨_,_,rfl,ck.nil,ck.nil⟩,?_⟩;have hL:∀ (V:World) (o:Nat) (z:Value),Below w.heap.size w V->Below w.heap.size w (V.setCell ⟨w.heap.size+1,o,none⟩ z):=fun V o z q=>q.setCell (p:=⟨w.heap.size+1,o,none⟩) (by show w.heap.size<=w.heap.size+1;omega) z;exact hL _ _ _ (hL _ _ _ (hL _ _ _ (hL _ _ _ (hL _ _ _ (hL _ _ _ hB)))))
def gT:az:=⟨⟨#[]⟩,0,0,0,false,false,[]⟩
def Fu (ok:Nat->Prop)(d:az)(w:World)(u:List Value)(w':World):Prop:=aO (fun b=>ok b\/w.heap.size<=b) w' u d/\Below w.heap.size w w'
def FQ (ok:Nat->Prop)(Gb:List az)(nm:ByteArray)(w:World)(e:Ending)(w':World):Prop :=
 ∃ u,e=.returned (.tuple #[.agg u.toArray,.bool (bH Gb nm).isSome])/\Fu ok ((bH Gb nm).getD gT) w u w'
theorem nZ {ok:Nat->Prop}(g:af)(a:bN)(nm:ByteArray)(w:World)(hr:ck aO 7 ok w [.slice a.dp g.Gb.length a.dc] g.Gb)(hd:g.Gb.length<=1000000)(hz:∀ d∈g.Gb,d.tags.length<=1000000) :
  Calls prog 50 #[.agg (uY g a).toArray,.string nm] w (FQ ok g.Gb nm w):=by
 obtain ⟨ID,IH,II,G3,G4,Ge,Hb,Hc⟩:=a;dsimp only [uY] at hr ⊢;have HR:=aa hr;clear hr;have HT:=aa hz;clear hz;go_enter func50,ntmps50;go_wp2
 go_loopw [11] (fun i wr=>∃ k:Nat,k<=g.Gb.length/\i=.int .i64 k/\(∀ j D,j<k->g.Gb[j]?=some D->¬ D.name=nm)/\Below w.heap.size w wr/\w.heap.size+1<wr.heap.size/\wr.heap[w.heap.size+1]?=some (.cells #[.string ⟨#[]⟩,.int .u64 0,.int .i64 0,.int .i64 0,.bool false,.bool false,.slice none 0 0] 47 (0,0))) (fun i _=>g.Gb.length - (intOf i).toNat)
 case atStart =>
  refine ⟨0,cg _,rfl,(fun j D hj=>by omega),((bj _ _).alloc (bk _) _).alloc (by simp) _,by simp,?_⟩;have:=b9 (w.alloc (.cells #[.string g.name,.int .u64 g.id,.int .i64 g.seq,.int .i64 g.Gd,.int .i64 g.next,.slice ID g.tags.length IH,.slice II g.Gb.length G3,.slice G4 g.F9.length Ge,.slice Hb g.history.length Hc] 31)) (.cells #[.string ⟨#[]⟩,.int .u64 0,.int .i64 0,.int .i64 0,.bool false,.bool false,.slice none 0 0] 47);rw [cW] at this;exact this
 case round =>
  obtain ⟨k,hk,rfl,hno,hB,hz,hR⟩:=hrel;have IW:=aa hno;clear hno
  by_cases hlt:k<g.Gb.length
  ·obtain ⟨d,hv⟩:=aj g.Gb k hlt
   have hsz:=HT.o d (ct hv);obtain ⟨b,off,u,rfl,gR,cX,ez,sA,hcv⟩:=HR.o.elem hv;obtain ⟨tv,rfl,ew⟩:=sA;have Hx:=aa ew;obtain ⟨tp,tc,rfl,_,_⟩:=ew.cap;have cT:wr.heap[b]?=w.heap[b]?:=hB.block b cX;obtain ⟨q0,q1,q2,q3,q4,q5,q6⟩:=OD cT hcv;have HD:=aa hv;clear hv;have yi:=aa hR;clear hR;clear hcv ez cT ew
   by_cases pD:d.name=nm
   ·have G2:=ae wr (.cells #[.string nm,.int .u64 d.id,.int .i64 d.first,.int .i64 d.Gc,.bool d.closed,.bool d.missing,.slice tp d.tags.length tc] 47)
    have Vs:=aa (b9 wr (.cells #[.string nm,.int .u64 d.id,.int .i64 d.first,.int .i64 d.Gc,.bool d.closed,.bool d.missing,.slice tp d.tags.length tc] 47));have MW:=aa ((G2.block _ hz).trans yi.o);have pL:=aa (hB.trans (G2.mono (by omega)));have Qf:Hid (wr.heap.size<(wr.alloc (.cells #[.string nm,.int .u64 d.id,.int .i64 d.first,.int .i64 d.Gc,.bool d.closed,.bool d.missing,.slice tp d.tags.length tc] 47)).heap.size):=aa (by simp);clear G2;have K4:=aa pD
    go_wp2_with fail
    generalize DA:wr.alloc _=WA at *;clear DA;refine (rD (ok:=fun b=>ok b/\b<w.heap.size) d.tags _ _ ((ck.moves aF.moves).mv ⟨pL.o.size,fun b hb ho=>⟨⟨ho,hb⟩,pL.o.block b hb⟩⟩ Hx.o) hsz).mono ?_;rintro e w3 ⟨Ym,rfl,Fk,hb3⟩;obtain ⟨tp3,tc3,rfl,_,_⟩:=Fk.cap;have MX:=aa Fk;clear Fk;have hx:=(hb3.block _ Qf.o).trans Vs.o;have hr3:=(hb3.block _ (by have:=aq MW.o;omega)).trans MW.o;have HS3:=aa hb3.size;have cJ:=aa (pL.o.trans (hb3.mono pL.o.size))
    have xL:=cr hx
    have rL:=cr hr3
    have x0:=xL 0 _ rfl;have r0:=rL 0 _ rfl;have x1:=xL 1 _ rfl;have r1:=rL 1 _ rfl;have x2:=xL 2 _ rfl;have r2:=rL 2 _ rfl;have x3:=xL 3 _ rfl;have r3:=rL 3 _ rfl;have x4:=xL 4 _ rfl;have r4:=rL 4 _ rfl;have x5:=xL 5 _ rfl;have r5:=rL 5 _ rfl;have x6:=xL 6 _ rfl;have r6:=rL 6 _ rfl;have xf:=sr hx
    have rf:=sr hr3
    clear xL rL hx hr3 hb3;have CM:Hid (bH g.Gb nm=some d):=aa (pR IW.o HD.o K4.o);have hne:¬ wr.heap.size=w.heap.size+1:=by omega
    have hne2:¬ w.heap.size+1=wr.heap.size:=by omega
    have Yg:=hB.size
    have I4:Hid (∀ wf:World,(∀ b,b≠w.heap.size+1->b≠wr.heap.size->wf.heap[b]?=w3.heap[b]?)->wf.heap.size=w3.heap.size->Below w.heap.size w wf->Fu ok ((bH g.Gb nm).getD gT) w [.string nm,.int .u64 d.id,.int .i64 d.first,.int .i64 d.Gc,.bool d.closed,.bool d.missing,.slice tp3 d.tags.length tc3] wf):=aa fun wf hk hz' hb=>by
     rw [CM.o];refine ⟨⟨_,by rw [<- K4.o];rfl,(ck.moves aF.moves).mv ⟨by omega,fun b hb' ho=>?_⟩ MX.o⟩,hb⟩;have KC:(ok b/\b<w.heap.size)\/WA.heap.size<=b:=ho;have:=Qf.o;exact ⟨KC.imp (fun q=>q.1) (fun q=>by omega),hk b (by rcases KC with q | q <;> omega) (by rcases KC with q | q <;> omega)⟩
    generalize N0:wr.heap.size=Bx at *;have aa4:=aa N0;clear N0;clear MX Hx HD;go_wp2;refine eC (v:=.tuple #[.agg #[.string nm,.int .u64 d.id,.int .i64 d.first,.int .i64 d.Gc,.bool d.closed,.bool d.missing,.slice tp3 d.tags.length tc3],.bool true]) (by simp [results,Tryz.results50,go_sem,r0,r1,r2,r3,r4,r5,r6]) rfl ⟨[.string nm,.int .u64 d.id,.int .i64 d.first,.int .i64 d.Gc,.bool d.closed,.bool d.missing,.slice tp3 d.tags.length tc3],by rw [CM.o];rfl,I4.o _ (fun b hb hb2=>?_) ?_ ?_⟩
    ·rw [bw _ _ _ _ hb,bw _ _ _ _ hb,bw _ _ _ _ hb,bw _ _ _ _ hb,bw _ _ _ _ hb,bw _ _ _ _ hb,bw _ _ _ _ hb,bw _ _ _ _ hb2]
    ·simp [World.setCell]
    ·have hL:∀ (V:World) (o:Nat) (z:Value),Below w.heap.size w V->Below w.heap.size w (V.setCell ⟨w.heap.size+1,o,none⟩ z):=fun V o z q=>q.setCell (p:=⟨w.heap.size+1,o,none⟩) (by show w.heap.size<=w.heap.size+1;omega) z
     exact hL _ _ _ (hL _ _ _ (hL _ _ _ (hL _ _ _ (hL _ _ _ (hL _ _ _ (hL _ _ _ (cJ.o.setCell (p:=⟨Bx,6,none⟩) (by show w.heap.size<=Bx;omega) _)))))))
   ·have e1:=jI pD
    go_wp2;go_roundw
    case rel =>
     refine ⟨k+1,by omega,by go_num,fun j E hj hE=>?_,hB.alloc (by omega) _,by simp;omega,(cj _ _ _ (by omega)).trans yi.o⟩
     by_cases hjk:j=k
     ·subst hjk
      rw [HD.o] at hE;injection hE with hE
      rw [<- hE];exact pD
     ·exact IW.o j E (by omega) hE
    case measure=>simp [intOf];omega
  ·obtain rfl:k=g.Gb.length:=by omega
   have rL:=cr hR
   obtain ⟨r0,r1,r2,r3,r4,r5,r6⟩:=se rL;have rf:=sr hR
   clear rL hR;have CM:Hid (bH g.Gb nm=none):=aa (ui IW.o);go_wp2;refine eC (v:=.tuple #[.agg #[.string ⟨#[]⟩,.int .u64 0,.int .i64 0,.int .i64 0,.bool false,.bool false,.slice none 0 0],.bool false]) (by simp [results,Tryz.results50,go_sem,r0,r1,r2,r3,r4,r5,r6]) rfl ⟨[.string ⟨#[]⟩,.int .u64 0,.int .i64 0,.int .i64 0,.bool false,.bool false,.slice none 0 0],by rw [CM.o];rfl,by rw [CM.o];exact ⟨_,rfl,ck.nil⟩,?_⟩;have hL:∀ (V:World) (o:Nat) (z:Value),Below w.heap.size w V->Below w.heap.size w (V.setCell ⟨w.heap.size+1,o,none⟩ z):=fun V o z q=>q.setCell (p:=⟨w.heap.size+1,o,none⟩) (by show w.heap.size<=w.heap.size+1;omega) z;exact hL _ _ _ (hL _ _ _ (hL _ _ _ (hL _ _ _ (hL _ _ _ (hL _ _ _ (hL _ _ _ hB))))))
structure JT (g:af):Prop where
 dl:g.Gb.length<=1000000
 dt:∀ d∈g.Gb,d.tags.length<=1000000
 vl:g.F9.length<=1000000
 vz:∀ v∈g.F9,qD v
theorem sM {ok:Nat->Prop}(Q:Exit->Act->World->Prop)(c1 c2 c3 c4 c5 c7 c8 c9 c10 c11 c12 c13 c14 c15 c16 c17 c18 c19 c20 c21 c22 c23 c24 c25 c26 c27 c28 c29 c30 c31 c32 c33 c34 c35 c36 c37 c38 c39 c40 c41 c42 c43 c44 c45 c46 c47 c48 c49 c50 c51 c52 c53 c54 c55 c56:Value)(w:World)(g:af)(a:bN)(bc sm Bx:Nat)(nm:ByteArray)(hx:w.heap[bc]?=some (.cells #[.string g.name,.int .u64 g.id,.int .i64 g.seq,.int .i64 g.Gd,.int .i64 g.next,.slice a.tp g.tags.length a.tc,.slice a.dp g.Gb.length a.dc,.slice a.vp g.F9.length a.vc,.slice a.hp g.history.length a.hc,.map (some sm)] 141 (0,0)))(hn:w.cell? ⟨Bx,1,none⟩=some (.string nm))(sk:Bx<w.heap.size)
  (hg:dN ok w g a) (hz:JT g) (x:az) (IJ:Bool) (Kn:(bH g.Gb nm).getD gT=x) (N3:(bH g.Gb nm).isSome=IJ)
  (HK:Hid (∀ (tp:Option Addr) (tc:Nat) (b:Nat) (W':World),Below w.heap.size w W'->w.heap.size<=b->W'.heap[b]?=some (.cells #[.string x.name,.int .u64 x.id,.int .i64 x.first,.int .i64 x.Gc,.bool x.closed,.bool x.missing,.slice tp x.tags.length tc] 47 (0,0))->aO (fun k=>(ok k/\k<w.heap.size)\/(w.heap.size<=k/\k≠b)) W' [.string x.name,.int .u64 x.id,.int .i64 x.first,.int .i64 x.Gc,.bool x.closed,.bool x.missing,.slice tp x.tags.length tc] x->Q .normal ⟨#[.pointer (some ⟨bc,0,none⟩),c1,c2,c3,c4,c5,.pointer (some ⟨Bx,0,none⟩),.pointer (some ⟨b,0,none⟩),.bool IJ,c9,c10,c11,c12,c13,c14,c15,c16,c17,c18,c19,.tuple #[.agg #[.string x.name,.int .u64 x.id,.int .i64 x.first,.int .i64 x.Gc,.bool x.closed,.bool x.missing,.slice tp x.tags.length tc],.bool IJ],.pointer (some ⟨bc,0,none⟩),.pointer (some ⟨bc,0,none⟩),.pointer (some ⟨bc,0,none⟩),.agg #[.string g.name,.int .u64 g.id,.int .i64 g.seq,.int .i64 g.Gd,.int .i64 g.next,.slice a.tp g.tags.length a.tc,.slice a.dp g.Gb.length a.dc,.slice a.vp g.F9.length a.vc,.slice a.hp g.history.length a.hc],.pointer (some ⟨Bx,1,none⟩),.string nm,.tuple #[.agg #[.string x.name,.int .u64 x.id,.int .i64 x.first,.int .i64 x.Gc,.bool x.closed,.bool x.missing,.slice tp x.tags.length tc],.bool IJ],.agg #[.string x.name,.int .u64 x.id,.int .i64 x.first,.int .i64 x.Gc,.bool x.closed,.bool x.missing,.slice tp x.tags.length tc],.bool IJ,c30,c31,c32,c33,c34,c35,c36,c37,c38,c39,c40,c41,c42,c43,c44,c45,c46,c47,c48,c49,c50,c51,c52,c53,c54,c55,c56],[]⟩ W'))
  (hQ:∀ c (a:Act) (d:Tmp) (v:Value) w,Q (.panic c) (a.put (some d) v) w->Q (.panic c) a w) :
  (Ai Tryz.f143 4).wp prog Q ⟨#[.pointer (some ⟨bc,0,none⟩),c1,c2,c3,c4,c5,.pointer (some ⟨Bx,0,none⟩),c7,c8,c9,c10,c11,c12,c13,c14,c15,c16,c17,c18,c19,c20,c21,c22,c23,c24,c25,c26,c27,c28,c29,c30,c31,c32,c33,c34,c35,c36,c37,c38,c39,c40,c41,c42,c43,c44,c45,c46,c47,c48,c49,c50,c51,c52,c53,c54,c55,c56],[]⟩ w:=by
 conv=>arg 2;whnf
 have vh:=aq hx
 have hS:∀ w':World,Below w.heap.size w w'->(w'.cell? ⟨Bx,1,none⟩=some (.string nm)/\w'.cell? ⟨bc,0,none⟩=some (.string g.name)/\w'.cell? ⟨bc,1,none⟩=some (.int .u64 g.id)/\w'.cell? ⟨bc,2,none⟩=some (.int .i64 g.seq)/\w'.cell? ⟨bc,3,none⟩=some (.int .i64 g.Gd)/\w'.cell? ⟨bc,4,none⟩=some (.int .i64 g.next)/\w'.cell? ⟨bc,5,none⟩=some (.slice a.tp g.tags.length a.tc)/\w'.cell? ⟨bc,6,none⟩=some (.slice a.dp g.Gb.length a.dc)/\w'.cell? ⟨bc,7,none⟩=some (.slice a.vp g.F9.length a.vc)/\w'.cell? ⟨bc,8,none⟩=some (.slice a.hp g.history.length a.hc)):=fun w' e=>by
  have h2:=(e.block bc vh).trans hx;exact ⟨(e.cell (p:=⟨Bx,1,none⟩) sk).trans hn,cr h2 _ _ rfl,cr h2 _ _ rfl,cr h2 _ _ rfl,cr h2 _ _ rfl,cr h2 _ _ rfl,cr h2 _ _ rfl,cr h2 _ _ rfl,cr h2 _ _ rfl,cr h2 _ _ rfl⟩
 have HS:=aa hS;clear hS;have Rj:Hid (∀ W:World,Below w.heap.size w W->dN (fun k=>ok k/\k<w.heap.size) W g a):=aa fun W hb=>hg.mv ⟨hb.size,fun k hk ho=>⟨⟨ho,hk⟩,hb.block k hk⟩⟩;have HZ:=aa hz;clear hz hg hx hn
 have hC:∀ W:World,Below w.heap.size w W->Calls prog 50 #[.agg #[.string g.name,.int .u64 g.id,.int .i64 g.seq,.int .i64 g.Gd,.int .i64 g.next,.slice a.tp g.tags.length a.tc,.slice a.dp g.Gb.length a.dc,.slice a.vp g.F9.length a.vc,.slice a.hp g.history.length a.hc],.string nm] W fun e w'=>∃ (tp:Option Addr) (tc:Nat),e=.returned (.tuple #[.agg #[.string x.name,.int .u64 x.id,.int .i64 x.first,.int .i64 x.Gc,.bool x.closed,.bool x.missing,.slice tp x.tags.length tc],.bool IJ])/\aO (fun k=>(ok k/\k<w.heap.size)\/W.heap.size<=k) w' [.string x.name,.int .u64 x.id,.int .i64 x.first,.int .i64 x.Gc,.bool x.closed,.bool x.missing,.slice tp x.tags.length tc] x/\Below W.heap.size W w':=fun W hb=>by
  refine (nZ g a nm W (ok:=fun k=>ok k/\k<w.heap.size) (dN.Gb (Rj.o W hb)) HZ.o.dl HZ.o.dt).mono ?_;rintro e w' ⟨u,rfl,hv,hb'⟩;rw [Kn] at hv;rw [N3];obtain ⟨t,rfl,ht⟩:=hv;obtain ⟨tp,tc,rfl,h1,h2⟩:=ht.cap;have sA:aO _ w' _ _:=⟨_,rfl,ht⟩;exact ⟨_,_,rfl,sA,hb'⟩
 have HC:=aa hC;clear hC Kn N3;refine aL (fun w'=>w'.cell? ⟨Bx,1,none⟩=some (.string nm)/\w'.cell? ⟨bc,0,none⟩=some (.string g.name)/\w'.cell? ⟨bc,1,none⟩=some (.int .u64 g.id)/\w'.cell? ⟨bc,2,none⟩=some (.int .i64 g.seq)/\w'.cell? ⟨bc,3,none⟩=some (.int .i64 g.Gd)/\w'.cell? ⟨bc,4,none⟩=some (.int .i64 g.next)/\w'.cell? ⟨bc,5,none⟩=some (.slice a.tp g.tags.length a.tc)/\w'.cell? ⟨bc,6,none⟩=some (.slice a.dp g.Gb.length a.dc)/\w'.cell? ⟨bc,7,none⟩=some (.slice a.vp g.F9.length a.vc)/\w'.cell? ⟨bc,8,none⟩=some (.slice a.hp g.history.length a.hc)) 13 [] (by kernel_rfl) (HS.o _ (bj _ _).drew) (fun hHeld=>?_);refine cH hQ 0 hHeld ?_;try simp only [ak];refine cH hQ 1 hHeld ?_;try simp only [ak];refine cH hQ 2 hHeld ?_;try simp only [ak];refine cH hQ 3 hHeld ?_;try simp only [ak];refine cH hQ 4 hHeld ?_;try simp only [ak];refine cH hQ 5 hHeld ?_;try simp only [ak];refine mh (i:=6) (j:=10) rfl rfl rfl rfl (by kernel_rfl) (fun K hK=>?_) (fun K hK=>?_)
 ·go_simp
  refine (HC.o _ (bj _ _).drew).mono ?_;rintro e w1 ⟨tp,tc,rfl,hv1,hb1⟩;have hb1':Below w.heap.size w w1:=⟨hb1.os,hb1.tape,hb1.output,hb1.size,hb1.block⟩;refine hK.o _ _ (HS.o _ hb1') ?_;clear hK K hHeld;have hHeld:=HS.o _ hb1';have J4:=aa hv1;clear hv1 hb1;have cU:=aa hb1';clear hb1';refine cH hQ 7 hHeld ?_;try simp only [ak];refine cH hQ 8 hHeld ?_;try simp only [ak];refine cH hQ 9 hHeld ?_;try simp only [ak];refine lR 10 fun K hK=>?_;go_simp;have hb2:Below w.heap.size w (w1.alloc (.cells #[.string ⟨#[]⟩,.int .u64 0,.int .i64 0,.int .i64 0,.bool false,.bool false,.slice none 0 0] 47)):=cU.o.alloc cU.o.size _;refine hK.o _ _ (HS.o _ hb2) ?_;clear hK K hHeld;have gh:=b9 w1 (.cells #[.string ⟨#[]⟩,.int .u64 0,.int .i64 0,.int .i64 0,.bool false,.bool false,.slice none 0 0] 47);have gO:w1.heap.size<(w1.alloc (.cells #[.string ⟨#[]⟩,.int .u64 0,.int .i64 0,.int .i64 0,.bool false,.bool false,.slice none 0 0] 47)).heap.size:=by simp
  have hv2:aO (fun k=>(ok k/\k<w.heap.size)\/(w.heap.size<=k/\k<w1.heap.size)) (w1.alloc (.cells #[.string ⟨#[]⟩,.int .u64 0,.int .i64 0,.int .i64 0,.bool false,.bool false,.slice none 0 0] 47)) [.string x.name,.int .u64 x.id,.int .i64 x.first,.int .i64 x.Gc,.bool x.closed,.bool x.missing,.slice tp x.tags.length tc] x:=aO.moves.mv ⟨by simp,fun k hk ho=>⟨ho.imp id (fun q=>⟨q,hk⟩),cj _ _ _ hk⟩⟩ J4.o;have mA:=cU.o.size;generalize hW2:World.alloc w1 _=W2 at *;generalize hb0:w1.heap.size=b0 at *;clear hW2 hb0 J4 cU;have Je:=aa hv2;clear hv2;have cm:=aa hb2;clear hb2;obtain ⟨z0,z1,z2,z3,z4,z5,z6⟩:=se (cr gh)
  have zf:=sr gh
  have F2:=aa (block_setCell (i:=6) (.slice tp x.tags.length tc) (block_setCell (i:=5) (.bool x.missing) (block_setCell (i:=4) (.bool x.closed) (block_setCell (i:=3) (.int .i64 x.Gc) (block_setCell (i:=2) (.int .i64 x.first) (block_setCell (i:=1) (.int .u64 x.id) (block_setCell (w:=W2) (i:=0) (.string x.name) gh)))))));have my:Hid (∀ (V:World) (o:Nat) (z:Value),Below w.heap.size w V->Below w.heap.size w (V.setCell ⟨b0,o,none⟩ z)):=aa fun V o z q=>q.setCell (p:=⟨b0,o,none⟩) mA z;clear gh;refine lR 11 fun K hK=>?_;go_simp;have hb3:Below w.heap.size w (World.setCell (World.setCell (World.setCell (World.setCell (World.setCell (World.setCell (World.setCell W2 ⟨b0,0,none⟩ (.string x.name)) ⟨b0,1,none⟩ (.int .u64 x.id)) ⟨b0,2,none⟩ (.int .i64 x.first)) ⟨b0,3,none⟩ (.int .i64 x.Gc)) ⟨b0,4,none⟩ (.bool x.closed)) ⟨b0,5,none⟩ (.bool x.missing)) ⟨b0,6,none⟩ (.slice tp x.tags.length tc)):=(my.o _ _ _ (my.o _ _ _ (my.o _ _ _ (my.o _ _ _ (my.o _ _ _ (my.o _ _ _ (my.o _ _ _ cm.o)))))));refine hK.o _ _ (HS.o _ hb3) ?_;clear hK K;refine lR 12 fun K hK=>?_;go_simp;refine hK.o _ _ (HS.o _ hb3) ?_;clear hK K;refine aP (by kernel_rfl) rfl ?_;simp only [cQ,km,cL];refine HK.o _ _ b0 _ hb3 mA F2.o (aO.moves.mv ⟨by simp [World.setCell],fun k hk ho=>⟨?_,?_⟩⟩ Je.o)
  ·exact ho.imp id (fun q=>⟨q.1,by omega⟩)
  ·have hkb:k≠b0:=by rcases ho with q | q <;> omega
   rw [bw _ _ _ _ hkb,bw _ _ _ _ hkb,bw _ _ _ _ hkb,bw _ _ _ _ hkb,bw _ _ _ _ hkb,bw _ _ _ _ hkb,bw _ _ _ _ hkb]
 ·go_simp
  have hb2:Below w.heap.size w (w.drew.alloc (.cells #[.string ⟨#[]⟩,.int .u64 0,.int .i64 0,.int .i64 0,.bool false,.bool false,.slice none 0 0] 47)):=((bj _ _).drew).alloc (bk _) _;refine hK.o _ _ (HS.o _ hb2) ?_;clear hK K hHeld;have hHeld:=HS.o _ hb2;refine lR 6 fun K hK=>?_;go_simp;refine (HC.o _ hb2).mono ?_;rintro e w1 ⟨tp,tc,rfl,hv1,hb1⟩;have hb1':Below w.heap.size w w1:=hb2.trans (hb1.mono hb2.size);refine hK.o _ _ (HS.o _ hb1') ?_;clear hK K hHeld;have hHeld:=HS.o _ hb1';have gh:=(hb1.block _ (by simp)).trans (b9 w.drew (.cells #[.string ⟨#[]⟩,.int .u64 0,.int .i64 0,.int .i64 0,.bool false,.bool false,.slice none 0 0] 47));have hv2:aO (fun k=>(ok k/\k<w.heap.size)\/(w.heap.size<=k/\w.heap.size<k)) w1 [.string x.name,.int .u64 x.id,.int .i64 x.first,.int .i64 x.Gc,.bool x.closed,.bool x.missing,.slice tp x.tags.length tc] x:=aO.moves.mv ⟨bk _,fun k hk ho=>⟨ho.imp id (fun q=>by simp at q;omega),rfl⟩⟩ hv1;have mA:w.heap.size<=w.heap.size:=bk _;have gh:w1.heap[w.heap.size]?=some (.cells #[.string ⟨#[]⟩,.int .u64 0,.int .i64 0,.int .i64 0,.bool false,.bool false,.slice none 0 0] 47 (0,0)):=gh;clear hb2;have hb2:=hb1';clear hv1 hb1 hb1';generalize w1=W2 at *;refine cH hQ 7 hHeld ?_;try simp only [ak];refine cH hQ 8 hHeld ?_;try simp only [ak];refine cH hQ 9 hHeld ?_;try simp only [ak];have Je:=aa hv2;clear hv2;have cm:=aa hb2;clear hb2;obtain ⟨z0,z1,z2,z3,z4,z5,z6⟩:=se (cr gh)
  have zf:=sr gh
  have F2:=aa (block_setCell (i:=6) (.slice tp x.tags.length tc) (block_setCell (i:=5) (.bool x.missing) (block_setCell (i:=4) (.bool x.closed) (block_setCell (i:=3) (.int .i64 x.Gc) (block_setCell (i:=2) (.int .i64 x.first) (block_setCell (i:=1) (.int .u64 x.id) (block_setCell (w:=W2) (i:=0) (.string x.name) gh)))))));have my:Hid (∀ (V:World) (o:Nat) (z:Value),Below w.heap.size w V->Below w.heap.size w (V.setCell ⟨w.heap.size,o,none⟩ z)):=aa fun V o z q=>q.setCell (p:=⟨w.heap.size,o,none⟩) mA z;clear gh;refine lR 11 fun K hK=>?_;go_simp;have hb3:Below w.heap.size w (World.setCell (World.setCell (World.setCell (World.setCell (World.setCell (World.setCell (World.setCell W2 ⟨w.heap.size,0,none⟩ (.string x.name)) ⟨w.heap.size,1,none⟩ (.int .u64 x.id)) ⟨w.heap.size,2,none⟩ (.int .i64 x.first)) ⟨w.heap.size,3,none⟩ (.int .i64 x.Gc)) ⟨w.heap.size,4,none⟩ (.bool x.closed)) ⟨w.heap.size,5,none⟩ (.bool x.missing)) ⟨w.heap.size,6,none⟩ (.slice tp x.tags.length tc)):=(my.o _ _ _ (my.o _ _ _ (my.o _ _ _ (my.o _ _ _ (my.o _ _ _ (my.o _ _ _ (my.o _ _ _ cm.o)))))));refine hK.o _ _ (HS.o _ hb3) ?_;clear hK K;refine lR 12 fun K hK=>?_;go_simp;refine hK.o _ _ (HS.o _ hb3) ?_;clear hK K;refine aP (by kernel_rfl) rfl ?_;simp only [cQ,km,cL];refine HK.o _ _ w.heap.size _ hb3 mA F2.o (aO.moves.mv ⟨by simp [World.setCell],fun k hk ho=>⟨?_,?_⟩⟩ Je.o)
  ·exact ho.imp id (fun q=>⟨q.1,by omega⟩)
  ·have hkb:k≠w.heap.size:=by rcases ho with q | q <;> omega
   rw [bw _ _ _ _ hkb,bw _ _ _ _ hkb,bw _ _ _ _ hkb,bw _ _ _ _ hkb,bw _ _ _ _ hkb,bw _ _ _ _ hkb,bw _ _ _ _ hkb]
end Go.Proofs.YtjdfihglehfelaaGreatDoor
