/- Lemmas: ModD, ModE, ModF. -/
import Derived.Test.YtjdfihglehfelaaGreatDoorQm12
set_option maxRecDepth 100000
set_option maxHeartbeats 32000000
set_option linter.all false
namespace Go.Proofs.YtjdfihglehfelaaGreatDoor
open Go.Proofs.Tryz
open Go.RowKit Go.Maps Go.Shelf
variable {F9:List ay}{nm:ByteArray}{ok:Nat->Prop}
def aM (F9:List ay)(nm:ByteArray):Option ay:=F9.find? fun v=>decide (v.name=nm)
def eY:ay:=⟨⟨#[]⟩,0,false,false,[],[]⟩
def F8 (ok:Nat->Prop)(F9:List ay)(nm:ByteArray)(w:World)(e:Ending)(w':World):Prop :=
 ∃ u,e=.returned (.tuple #[.agg u.toArray,.bool (aM F9 nm).isSome])/\D8 ok ((aM F9 nm).getD eY) w u w'
theorem yV (h:∀ (j:Nat) (v:ay),j<F9.length->F9[j]?=some v->¬ v.name=nm):aM F9 nm=none:=by
 unfold aM;rw [List.find?_eq_none];intro v hv;obtain ⟨j,hj⟩:=fc hv;simpa using h j v (List.getElem?_eq_some_iff.1 hj).1 hj
theorem CW {k:Nat}{v:ay}(hno:∀ (j:Nat) (u:ay),j<k->F9[j]?=some u->¬ u.name=nm)(h:F9[k]?=some v)(e:v.name=nm):aM F9 nm=some v:=by
 unfold aM;rw [List.find?_eq_some_iff_getElem];obtain ⟨hk,hv⟩:=List.getElem?_eq_some_iff.1 h;exact ⟨by simpa using e,k,hk,hv,fun j hj=>by simpa using hno j _ hj (lO Tcd)⟩
def Taq (x0:af)(x1:Option Addr)(x2:Nat)(x3:Option Addr)(x4:Nat)(x5:Option Addr)(x6:Nat)(x7:Option Addr)(x8:Nat):Taa #[.string x0.name,.int .u64 x0.id,.int .i64 x0.seq,.int .i64 x0.Gd,.int .i64 x0.next,.slice x1 x0.tags.length x2,.slice x3 x0.Gb.length x4,.slice x5 x0.F9.length x6,.slice x7 x0.history.length x8]:=⟨⟩
theorem TdK {p:Prop}(h:p:=by simp [results,Tryz.results95,go_sem,r0,r1,r2,r3,r4,r5]):p:=h
theorem Tdt {p:Prop}(h:p:=by rcases KC with q | q <;> omega):p:=h
theorem fA (g:af)(a:bN)(nm:ByteArray)(w:World)(hr:ck aN 6 ok w [.slice a.vp g.F9.length a.vc] g.F9)(hd:g.F9.length<=1000000)(hz:∀ v∈g.F9,qD v) :
  Calls prog 95 #[.agg (uY g a).toArray,.string nm] w (F8 ok g.F9 nm w):=by
 obtain ⟨ID,IH,Ow,G3,G4,Ge,Hb,Hc⟩:=a;dsimp only [uY] at hr ⊢;have HR:=aa hr;clear hr;have HT:=aa hz;clear hz;go_enter func95,ntmps95;go_wp2
 go_loopw [11] (fun i wr=>∃ k:Nat,k<=g.F9.length/\i=.int .i64 k/\(∀ j D,j<k->g.F9[j]?=some D->¬ D.name=nm)/\Below w.heap.size w wr/\w.heap.size+1<wr.heap.size/\wr.heap[w.heap.size+1]?=some (.cells Tap 55 (0,0))) (fun i _=>g.F9.length - (intOf i).toNat)
 case atStart =>
  refine ⟨0,cg _,rfl,(fun j D hj=>by omega),((bj _ _).alloc (bk _) _).alloc Tce _,Tce,?_⟩;have:=b9 (w.alloc (.cells (Taq g ID IH Ow G3 G4 Ge Hb Hc) 31)) (.cells Tap 55);rw [cW] at this;exact this
 case round =>
  obtain ⟨k,hk,rfl,hno,hB,hz,hR⟩:=hrel;have XS:=aa hno;clear hno
  by_cases hlt:k<g.F9.length
  ·obtain ⟨v,hv⟩:=aj g.F9 k hlt
   have hsz:=HT.o v (ct hv);have RB:=aa hsz;clear hsz;obtain ⟨b,off,u,rfl,gR,cX,ez,sA,hcv⟩:=HR.o.elem hv;have My:=aa sA;obtain ⟨tv,sv,rfl,ew,fL⟩:=sA;obtain ⟨tp,tc,rfl,_,_⟩:=ew.cap;obtain ⟨sp,sc,rfl,_,_⟩:=fL.cap;have cT:wr.heap[b]?=w.heap[b]?:=hB.block b cX;obtain ⟨q0,q1,q2,q3,q4,q5⟩:=NG cT hcv;have HD:=aa hv;clear hv;have yi:=aa hR;clear hR;clear hcv ez cT ew fL
   by_cases pD:v.name=nm
   ·have G2:=ae wr (.cells #[.string nm,.int .u64 v.id,.bool v.hidden,.bool v.ro,.slice tp v.tags.length tc,.slice sp v.Gf.length sc] 55)
    have MW:=aa ((G2.block _ hz).trans yi.o);have pL:=aa (hB.trans (G2.mono Tcd));clear G2;have K4:=aa pD
    go_wp2_with fail
    generalize DA:wr.alloc _=WA at *;clear DA
    have sA:aN (fun b=>ok b/\b<w.heap.size) WA [.string nm,.int .u64 v.id,.bool v.hidden,.bool v.ro,.slice tp v.tags.length tc,.slice sp v.Gf.length sc] v:=by
     have:=aN.moves.mv (ok':=fun b=>ok b/\b<w.heap.size) ⟨pL.o.size,fun b hb ho=>⟨⟨ho,hb⟩,pL.o.block b hb⟩⟩ My.o
     rwa [K4.o] at this
    have HWZ:=aa pL.o.size;refine (pO (ok:=fun b=>ok b/\b<w.heap.size) v _ _ sA RB.o).mono ?_;rintro e w3 ⟨u3,rfl,hn3,hb3⟩;obtain ⟨Ym,UN,rfl,Fk,O0⟩:=hn3;have Yn:=aa (show aN _ w3 _ v from ⟨Ym,UN,rfl,Fk,O0⟩);obtain ⟨tp3,tc3,rfl,_,_⟩:=Fk.cap;obtain ⟨sp3,sc3,rfl,_,_⟩:=O0.cap;clear Fk O0;have hr3:=(hb3.block _ (aq MW.o)).trans MW.o
    have rL:=cr hr3
    obtain ⟨r0,r1,r2,r3,r4,r5⟩:=XP rL;have rf:=sr hr3
    have cJ:=aa (pL.o.trans (hb3.mono pL.o.size));have Qf:=aa (aq MW.o);have aa3:=aa hb3;clear rL hr3 hb3;have CM:Hid (aM g.F9 nm=some v):=aa (CW XS.o HD.o K4.o);have O1:=Yn;rw [K4.o] at O1
    have fN:Hid (∀ wf:World,(∀ b,b≠w.heap.size+1->wf.heap[b]?=w3.heap[b]?)->wf.heap.size=w3.heap.size->Below w.heap.size w wf->D8 ok ((aM g.F9 nm).getD eY) w [.string nm,.int .u64 v.id,.bool v.hidden,.bool v.ro,.slice tp3 v.tags.length tc3,.slice sp3 v.Gf.length sc3] wf):=aa fun wf hk hz hb=>by
     rw [CM.o];refine ⟨aN.moves.mv ⟨Tcd,fun b hb' ho=>?_⟩ O1.o,hb⟩;have KC:(ok b/\b<w.heap.size)\/WA.heap.size<=b:=ho;have:=HWZ.o;have:=Qf.o;exact ⟨KC.imp (fun q=>q.1) (fun q=>by omega),hk b Tdt⟩
    clear Yn O1 My HD;go_wp2;refine eC (v:=.tuple #[.agg #[.string nm,.int .u64 v.id,.bool v.hidden,.bool v.ro,.slice tp3 v.tags.length tc3,.slice sp3 v.Gf.length sc3],.bool true]) TdK rfl ⟨[.string nm,.int .u64 v.id,.bool v.hidden,.bool v.ro,.slice tp3 v.tags.length tc3,.slice sp3 v.Gf.length sc3],by rw [CM.o];rfl,fN.o _ (fun b hb=>?_) ?_ ?_⟩
    ·exact TbR
    ·simp [World.setCell]
    ·have hL:∀ (V:World) (o:Nat) (z:Value),Below w.heap.size w V->Below w.heap.size w (V.setCell ⟨w.heap.size+1,o,none⟩ z):=fun V o z q=>q.setCell (p:=⟨w.heap.size+1,o,none⟩) TcO z
     exact hL _ _ _ (hL _ _ _ (hL _ _ _ (hL _ _ _ (hL _ _ _ (hL _ _ _ cJ.o)))))
   exact Ta6
  ·obtain rfl:k=g.F9.length:=by omega
   have rL:=cr hR
   obtain ⟨r0,r1,r2,r3,r4,r5⟩:=XP rL;have rf:=sr hR
   clear rL hR;have CM:Hid (aM g.F9 nm=none):=aa (yV XS.o);go_wp2;refine eC (v:=.tuple #[.agg Tap,.bool false]) TdK rfl ⟨[.string ⟨#[]⟩,.int .u64 0,.bool false,.bool false,.slice none 0 0,.slice none 0 0],by rw [CM.o];rfl,by rw [CM.o];exact ⟨_,_,rfl,ck.nil,ck.nil⟩,?_⟩;have hL:∀ (V:World) (o:Nat) (z:Value),Below w.heap.size w V->Below w.heap.size w (V.setCell ⟨w.heap.size+1,o,none⟩ z):=fun V o z q=>q.setCell (p:=⟨w.heap.size+1,o,none⟩) TcO z;exact hL _ _ _ (hL _ _ _ (hL _ _ _ (hL _ _ _ (hL _ _ _ (hL _ _ _ hB)))))
def gT:az:=⟨⟨#[]⟩,0,0,0,false,false,[]⟩
def Fu (ok:Nat->Prop)(d:az)(w:World)(u:List Value)(w':World):Prop:=aO (fun b=>ok b\/w.heap.size<=b) w' u d/\Below w.heap.size w w'
def FQ (ok:Nat->Prop)(Gb:List az)(nm:ByteArray)(w:World)(e:Ending)(w':World):Prop :=
 ∃ u,e=.returned (.tuple #[.agg u.toArray,.bool (bH Gb nm).isSome])/\Fu ok ((bH Gb nm).getD gT) w u w'
theorem nZ (g:af)(a:bN)(nm:ByteArray)(w:World)(hr:ck aO 7 ok w [.slice a.dp g.Gb.length a.dc] g.Gb)(hd:g.Gb.length<=1000000)(hz:∀ d∈g.Gb,d.tags.length<=1000000) :
  Calls prog 50 #[.agg (uY g a).toArray,.string nm] w (FQ ok g.Gb nm w):=by
 obtain ⟨ID,IH,Ow,G3,G4,Ge,Hb,Hc⟩:=a;dsimp only [uY] at hr ⊢;have HR:=aa hr;clear hr;have HT:=aa hz;clear hz;go_enter func50,ntmps50;go_wp2
 go_loopw [11] (fun i wr=>∃ k:Nat,k<=g.Gb.length/\i=.int .i64 k/\(∀ j D,j<k->g.Gb[j]?=some D->¬ D.name=nm)/\Below w.heap.size w wr/\w.heap.size+1<wr.heap.size/\wr.heap[w.heap.size+1]?=some (.cells Tal 47 (0,0))) (fun i _=>g.Gb.length - (intOf i).toNat)
 case atStart =>
  refine ⟨0,cg _,rfl,(fun j D hj=>by omega),((bj _ _).alloc (bk _) _).alloc Tce _,Tce,?_⟩;have:=b9 (w.alloc (.cells (Taq g ID IH Ow G3 G4 Ge Hb Hc) 31)) (.cells Tal 47);rw [cW] at this;exact this
 case round =>
  obtain ⟨k,hk,rfl,hno,hB,hz,hR⟩:=hrel;have XS:=aa hno;clear hno
  by_cases hlt:k<g.Gb.length
  ·obtain ⟨d,hv⟩:=aj g.Gb k hlt
   have hsz:=HT.o d (ct hv);obtain ⟨b,off,u,rfl,gR,cX,ez,sA,hcv⟩:=HR.o.elem hv;obtain ⟨tv,rfl,ew⟩:=sA;have Hx:=aa ew;obtain ⟨tp,tc,rfl,_,_⟩:=ew.cap;have cT:wr.heap[b]?=w.heap[b]?:=hB.block b cX;obtain ⟨q0,q1,q2,q3,q4,q5,q6⟩:=OD cT hcv;have HD:=aa hv;clear hv;have yi:=aa hR;clear hR;clear hcv ez cT ew
   by_cases pD:d.name=nm
   ·have G2:=ae wr (.cells (Taw nm d tp tc) 47)
    have Vs:=aa (b9 wr (.cells (Taw nm d tp tc) 47));have MW:=aa ((G2.block _ hz).trans yi.o);have pL:=aa (hB.trans (G2.mono Tcd));have Qf:Hid (wr.heap.size<(wr.alloc (.cells (Taw nm d tp tc) 47)).heap.size):=aa Tce;clear G2;have K4:=aa pD
    go_wp2_with fail
    generalize DA:wr.alloc _=WA at *;clear DA;refine (rD (ok:=fun b=>ok b/\b<w.heap.size) d.tags _ _ ((ck.moves aF.moves).mv ⟨pL.o.size,fun b hb ho=>⟨⟨ho,hb⟩,pL.o.block b hb⟩⟩ Hx.o) hsz).mono ?_;rintro e w3 ⟨Ym,rfl,Fk,hb3⟩;obtain ⟨tp3,tc3,rfl,_,_⟩:=Fk.cap;have MX:=aa Fk;clear Fk;have hx:=(hb3.block _ Qf.o).trans Vs.o;have hr3:=(hb3.block _ (by have:=aq MW.o;omega)).trans MW.o;have HS3:=aa hb3.size;have cJ:=aa (pL.o.trans (hb3.mono pL.o.size))
    have xL:=cr hx
    have rL:=cr hr3
    have x0:=xL 0 _ rfl;have r0:=rL 0 _ rfl;have x1:=xL 1 _ rfl;have r1:=rL 1 _ rfl;have x2:=xL 2 _ rfl;have r2:=rL 2 _ rfl;have x3:=xL 3 _ rfl;have r3:=rL 3 _ rfl;have x4:=xL 4 _ rfl;have r4:=rL 4 _ rfl;have x5:=xL 5 _ rfl;have r5:=rL 5 _ rfl;have x6:=xL 6 _ rfl;have r6:=rL 6 _ rfl;have xf:=sr hx
    have rf:=sr hr3
    clear xL rL hx hr3 hb3;have CM:Hid (bH g.Gb nm=some d):=aa (pR XS.o HD.o K4.o);have hne:¬ wr.heap.size=w.heap.size+1:=by omega
    have hne2:¬ w.heap.size+1=wr.heap.size:=by omega
    have Yg:=hB.size
    have fN:Hid (∀ wf:World,(∀ b,b≠w.heap.size+1->b≠wr.heap.size->wf.heap[b]?=w3.heap[b]?)->wf.heap.size=w3.heap.size->Below w.heap.size w wf->Fu ok ((bH g.Gb nm).getD gT) w [.string nm,.int .u64 d.id,.int .i64 d.first,.int .i64 d.Gc,.bool d.closed,.bool d.missing,.slice tp3 d.tags.length tc3] wf):=aa fun wf hk hz' hb=>by
     rw [CM.o];refine ⟨⟨_,by rw [<- K4.o];rfl,(ck.moves aF.moves).mv ⟨Tcd,fun b hb' ho=>?_⟩ MX.o⟩,hb⟩;have KC:(ok b/\b<w.heap.size)\/WA.heap.size<=b:=ho;have:=Qf.o;exact ⟨KC.imp (fun q=>q.1) (fun q=>by omega),hk b Tdt Tdt⟩
    generalize N0:wr.heap.size=Bx at *;have aa4:=aa N0;clear N0;clear MX Hx HD;go_wp2;refine eC (v:=.tuple #[.agg (Taw nm d tp3 tc3),.bool true]) Tc6 rfl ⟨[.string nm,.int .u64 d.id,.int .i64 d.first,.int .i64 d.Gc,.bool d.closed,.bool d.missing,.slice tp3 d.tags.length tc3],by rw [CM.o];rfl,fN.o _ (fun b hb hb2=>?_) ?_ ?_⟩
    ·rw [bw _ _ _ _ hb,bw _ _ _ _ hb,bw _ _ _ _ hb,bw _ _ _ _ hb,bw _ _ _ _ hb,bw _ _ _ _ hb,bw _ _ _ _ hb,bw _ _ _ _ hb2]
    ·simp [World.setCell]
    ·exact Ta4
   exact Ta6
  ·obtain rfl:k=g.Gb.length:=by omega
   have rL:=cr hR
   obtain ⟨r0,r1,r2,r3,r4,r5,r6⟩:=se rL;have rf:=sr hR
   clear rL hR;have CM:Hid (bH g.Gb nm=none):=aa (ui XS.o);go_wp2;refine eC (v:=.tuple #[.agg Tal,.bool false]) Tc6 rfl ⟨[.string ⟨#[]⟩,.int .u64 0,.int .i64 0,.int .i64 0,.bool false,.bool false,.slice none 0 0],by rw [CM.o];rfl,by rw [CM.o];exact ⟨_,rfl,ck.nil⟩,?_⟩;have hL:∀ (V:World) (o:Nat) (z:Value),Below w.heap.size w V->Below w.heap.size w (V.setCell ⟨w.heap.size+1,o,none⟩ z):=fun V o z q=>q.setCell (p:=⟨w.heap.size+1,o,none⟩) TcO z;exact hL _ _ _ (hL _ _ _ (hL _ _ _ (hL _ _ _ (hL _ _ _ (hL _ _ _ (hL _ _ _ hB))))))
structure JT (g:af):Prop where
 dl:g.Gb.length<=1000000
 dt:∀ d∈g.Gb,d.tags.length<=1000000
 vl:g.F9.length<=1000000
 vz:∀ v∈g.F9,qD v
def Tae (x0:af)(x1:bN):Taa #[.string x0.name,.int .u64 x0.id,.int .i64 x0.seq,.int .i64 x0.Gd,.int .i64 x0.next,.slice x1.tp x0.tags.length x1.tc,.slice x1.dp x0.Gb.length x1.dc,.slice x1.vp x0.F9.length x1.vc,.slice x1.hp x0.history.length x1.hc]:=⟨⟩
theorem Tbb {p:Prop}(h:p:=by
 refine (nZ g a nm W (ok:=fun k=>ok k/\k<w.heap.size) (dN.Gb (Rj.o W hb)) HZ.o.dl HZ.o.dt).mono ?_
 rintro e w' ⟨u,rfl,hv,hb'⟩
 rw [Kn] at hv
 rw [N3]
 obtain ⟨t,rfl,ht⟩:=hv
 obtain ⟨tp,tc,rfl,h1,h2⟩:=ht.cap
 have sA:aO _ w' _ _:=⟨_,rfl,ht⟩
 exact ⟨_,_,rfl,sA,hb'⟩):p:=h
theorem Tb8 {p:Prop}(h:p:=by
 rw [bw _ _ _ _ hkb,bw _ _ _ _ hkb,bw _ _ _ _ hkb,bw _ _ _ _ hkb,bw _ _ _ _ hkb,bw _ _ _ _ hkb,bw _ _ _ _ hkb]):p:=h
theorem Tcc {p:Prop}(h:p:=by
 exact ho.imp id (fun q=>⟨q.1,Tcd⟩)):p:=h
theorem TaU {p:Prop}(h:p:=by
 refine cH hQ 0 hHeld ?_
 try simp only [ak]
 refine cH hQ 1 hHeld ?_
 try simp only [ak]
 refine cH hQ 2 hHeld ?_
 try simp only [ak]
 refine cH hQ 3 hHeld ?_
 try simp only [ak]
 refine cH hQ 4 hHeld ?_
 try simp only [ak]
 refine cH hQ 5 hHeld ?_
 try simp only [ak]
 refine mh (i:=6) (j:=10) rfl rfl rfl rfl Tcf (fun K hK=>?_) (fun K hK=>?_)
 ·go_simp
  refine (HC.o _ (bj _ _).drew).mono ?_;rintro e w1 ⟨tp,tc,rfl,hv1,hb1⟩;have hb1':Below w.heap.size w w1:=⟨hb1.os,hb1.tape,hb1.output,hb1.size,hb1.block⟩;refine hK.o _ _ (HS.o _ hb1') ?_;clear hK K hHeld;have hHeld:=HS.o _ hb1';have J4:=aa hv1;clear hv1 hb1;have cU:=aa hb1';clear hb1';refine cH hQ 7 hHeld ?_;try simp only [ak];refine cH hQ 8 hHeld ?_;try simp only [ak];refine cH hQ 9 hHeld ?_;try simp only [ak];refine lR 10 fun K hK=>?_;go_simp;have hb2:Below w.heap.size w (w1.alloc (.cells Tal 47)):=cU.o.alloc cU.o.size _;refine hK.o _ _ (HS.o _ hb2) ?_;clear hK K hHeld;have gh:=b9 w1 (.cells Tal 47);have gO:w1.heap.size<(w1.alloc (.cells Tal 47)).heap.size:=by simp
  have hv2:aO (fun k=>(ok k/\k<w.heap.size)\/(w.heap.size<=k/\k<w1.heap.size)) (w1.alloc (.cells Tal 47)) [.string x.name,.int .u64 x.id,.int .i64 x.first,.int .i64 x.Gc,.bool x.closed,.bool x.missing,.slice tp x.tags.length tc] x:=aO.moves.mv ⟨Tce,fun k hk ho=>⟨ho.imp id (fun q=>⟨q,hk⟩),cj _ _ _ hk⟩⟩ J4.o;have mA:=cU.o.size;generalize hW2:World.alloc w1 _=W2 at *;generalize hb0:w1.heap.size=b0 at *;clear hW2 hb0 J4 cU;have Sq:=aa hv2;clear hv2;have cm:=aa hb2;clear hb2;obtain ⟨z0,z1,z2,z3,z4,z5,z6⟩:=se (cr gh)
  have zf:=sr gh
  have F2:=aa (block_setCell (i:=6) (.slice tp x.tags.length tc) (block_setCell (i:=5) (.bool x.missing) (block_setCell (i:=4) (.bool x.closed) (block_setCell (i:=3) (.int .i64 x.Gc) (block_setCell (i:=2) (.int .i64 x.first) (block_setCell (i:=1) (.int .u64 x.id) (block_setCell (w:=W2) (i:=0) (.string x.name) gh)))))));have my:Hid (∀ (V:World) (o:Nat) (z:Value),Below w.heap.size w V->Below w.heap.size w (V.setCell ⟨b0,o,none⟩ z)):=aa fun V o z q=>q.setCell (p:=⟨b0,o,none⟩) mA z;clear gh;refine lR 11 fun K hK=>?_;go_simp;have hb3:Below w.heap.size w (World.setCell (World.setCell (World.setCell (World.setCell (World.setCell (World.setCell (World.setCell W2 ⟨b0,0,none⟩ (.string x.name)) ⟨b0,1,none⟩ (.int .u64 x.id)) ⟨b0,2,none⟩ (.int .i64 x.first)) ⟨b0,3,none⟩ (.int .i64 x.Gc)) ⟨b0,4,none⟩ (.bool x.closed)) ⟨b0,5,none⟩ (.bool x.missing)) ⟨b0,6,none⟩ (.slice tp x.tags.length tc)):=(my.o _ _ _ (my.o _ _ _ (my.o _ _ _ (my.o _ _ _ (my.o _ _ _ (my.o _ _ _ (my.o _ _ _ cm.o)))))));refine hK.o _ _ (HS.o _ hb3) ?_;clear hK K;refine lR 12 fun K hK=>?_;go_simp;refine hK.o _ _ (HS.o _ hb3) ?_;clear hK K;refine aP Tcf rfl ?_;simp only [cQ,km,cL];refine HK.o _ _ b0 _ hb3 mA F2.o (aO.moves.mv ⟨Tcq,fun k hk ho=>⟨?_,?_⟩⟩ Sq.o)
  ·exact Tcc
  ·have hkb:k≠b0:=by rcases ho with q | q <;> omega
   exact Tb8
 ·go_simp
  have hb2:Below w.heap.size w (w.drew.alloc (.cells Tal 47)):=((bj _ _).drew).alloc (bk _) _;refine hK.o _ _ (HS.o _ hb2) ?_;clear hK K hHeld;have hHeld:=HS.o _ hb2;refine lR 6 fun K hK=>?_;go_simp;refine (HC.o _ hb2).mono ?_;rintro e w1 ⟨tp,tc,rfl,hv1,hb1⟩;have hb1':Below w.heap.size w w1:=hb2.trans (hb1.mono hb2.size);refine hK.o _ _ (HS.o _ hb1') ?_;clear hK K hHeld;have hHeld:=HS.o _ hb1';have gh:=(hb1.block _ Tce).trans (b9 w.drew (.cells Tal 47));have hv2:aO (fun k=>(ok k/\k<w.heap.size)\/(w.heap.size<=k/\w.heap.size<k)) w1 [.string x.name,.int .u64 x.id,.int .i64 x.first,.int .i64 x.Gc,.bool x.closed,.bool x.missing,.slice tp x.tags.length tc] x:=aO.moves.mv ⟨bk _,fun k hk ho=>⟨ho.imp id (fun q=>by simp at q;omega),rfl⟩⟩ hv1;have mA:w.heap.size<=w.heap.size:=bk _;have gh:w1.heap[w.heap.size]?=some (.cells Tal 47 (0,0)):=gh;clear hb2;have hb2:=hb1';clear hv1 hb1 hb1';generalize w1=W2 at *;refine cH hQ 7 hHeld ?_;try simp only [ak];refine cH hQ 8 hHeld ?_;try simp only [ak];refine cH hQ 9 hHeld ?_;try simp only [ak];have Sq:=aa hv2;clear hv2;have cm:=aa hb2;clear hb2;obtain ⟨z0,z1,z2,z3,z4,z5,z6⟩:=se (cr gh)
  have zf:=sr gh
  have F2:=aa (block_setCell (i:=6) (.slice tp x.tags.length tc) (block_setCell (i:=5) (.bool x.missing) (block_setCell (i:=4) (.bool x.closed) (block_setCell (i:=3) (.int .i64 x.Gc) (block_setCell (i:=2) (.int .i64 x.first) (block_setCell (i:=1) (.int .u64 x.id) (block_setCell (w:=W2) (i:=0) (.string x.name) gh)))))));have my:Hid (∀ (V:World) (o:Nat) (z:Value),Below w.heap.size w V->Below w.heap.size w (V.setCell ⟨w.heap.size,o,none⟩ z)):=aa fun V o z q=>q.setCell (p:=⟨w.heap.size,o,none⟩) mA z;clear gh;refine lR 11 fun K hK=>?_;go_simp;have hb3:Below w.heap.size w (World.setCell (World.setCell (World.setCell (World.setCell (World.setCell (World.setCell (World.setCell W2 ⟨w.heap.size,0,none⟩ (.string x.name)) ⟨w.heap.size,1,none⟩ (.int .u64 x.id)) ⟨w.heap.size,2,none⟩ (.int .i64 x.first)) ⟨w.heap.size,3,none⟩ (.int .i64 x.Gc)) ⟨w.heap.size,4,none⟩ (.bool x.closed)) ⟨w.heap.size,5,none⟩ (.bool x.missing)) ⟨w.heap.size,6,none⟩ (.slice tp x.tags.length tc)):=(my.o _ _ _ (my.o _ _ _ (my.o _ _ _ (my.o _ _ _ (my.o _ _ _ (my.o _ _ _ (my.o _ _ _ cm.o)))))));refine hK.o _ _ (HS.o _ hb3) ?_;clear hK K;refine lR 12 fun K hK=>?_;go_simp;refine hK.o _ _ (HS.o _ hb3) ?_;clear hK K;refine aP Tcf rfl ?_;simp only [cQ,km,cL];refine HK.o _ _ w.heap.size _ hb3 mA F2.o (aO.moves.mv ⟨Tcq,fun k hk ho=>⟨?_,?_⟩⟩ Sq.o)
  ·exact Tcc
  ·have hkb:k≠w.heap.size:=by rcases ho with q | q <;> omega
   exact Tb8):p:=h
theorem sM (Q:Exit->Act->World->Prop){c1 c2 c3 c4 c5 c7 c8 c9 c10 c11 c12 c13 c14 c15 c16 c17 c18 c19 c20 c21 c22 c23 c24 c25 c26 c27 c28 c29 c30 c31 c32 c33 c34 c35 c36 c37 c38 c39 c40 c41 c42 c43 c44 c45 c46 c47 c48 c49 c50 c51 c52 c53 c54 c55 c56:Value}(w:World)(g:af)(a:bN)(bc sm Bx:Nat)(nm:ByteArray)(hx:w.heap[bc]?=some (.cells #[.string g.name,.int .u64 g.id,.int .i64 g.seq,.int .i64 g.Gd,.int .i64 g.next,.slice a.tp g.tags.length a.tc,.slice a.dp g.Gb.length a.dc,.slice a.vp g.F9.length a.vc,.slice a.hp g.history.length a.hc,.map (some sm)] 141 (0,0)))(hn:w.cell? (Tab Bx 1)=some (.string nm))(sk:Bx<w.heap.size)
  (hg:dN ok w g a) (hz:JT g) (x:az) (Oy:Bool) (Kn:(bH g.Gb nm).getD gT=x) (N3:(bH g.Gb nm).isSome=Oy)
  (HK:Hid (∀ (tp:Option Addr) (tc:Nat) (b:Nat) (W':World),Below w.heap.size w W'->w.heap.size<=b->W'.heap[b]?=some (.cells (Tai x tp tc) 47 (0,0))->aO (fun k=>(ok k/\k<w.heap.size)\/(w.heap.size<=k/\k≠b)) W' [.string x.name,.int .u64 x.id,.int .i64 x.first,.int .i64 x.Gc,.bool x.closed,.bool x.missing,.slice tp x.tags.length tc] x->Q .normal ⟨#[.pointer (some bc),c1,c2,c3,c4,c5,.pointer (some Bx),.pointer (some b),.bool Oy,c9,c10,c11,c12,c13,c14,c15,c16,c17,c18,c19,.tuple #[.agg (Tai x tp tc),.bool Oy],.pointer (some bc),.pointer (some bc),.pointer (some bc),.agg (Tae g a),.pointer (some (Tab Bx 1)),.string nm,.tuple #[.agg (Tai x tp tc),.bool Oy],.agg (Tai x tp tc),.bool Oy,c30,c31,c32,c33,c34,c35,c36,c37,c38,c39,c40,c41,c42,c43,c44,c45,c46,c47,c48,c49,c50,c51,c52,c53,c54,c55,c56],[]⟩ W'))
  (hQ:∀ c (a:Act) (d:Tmp) (v:Value) w,Q (.panic c) (a.put (some d) v) w->Q (.panic c) a w) :
  (Ai Tryz.f143 4).wp prog Q ⟨#[.pointer (some bc),c1,c2,c3,c4,c5,.pointer (some Bx),c7,c8,c9,c10,c11,c12,c13,c14,c15,c16,c17,c18,c19,c20,c21,c22,c23,c24,c25,c26,c27,c28,c29,c30,c31,c32,c33,c34,c35,c36,c37,c38,c39,c40,c41,c42,c43,c44,c45,c46,c47,c48,c49,c50,c51,c52,c53,c54,c55,c56],[]⟩ w:=by
 conv=>arg 2;whnf
 have vh:=aq hx
 have hS:∀ w':World,Below w.heap.size w w'->(w'.cell? (Tab Bx 1)=some (.string nm)/\w'.cell? bc=some (.string g.name)/\w'.cell? (Tab bc 1)=some (.int .u64 g.id)/\w'.cell? (Tab bc 2)=some (.int .i64 g.seq)/\w'.cell? (Tab bc 3)=some (.int .i64 g.Gd)/\w'.cell? (Tab bc 4)=some (.int .i64 g.next)/\w'.cell? (Tab bc 5)=some (.slice a.tp g.tags.length a.tc)/\w'.cell? (Tab bc 6)=some (.slice a.dp g.Gb.length a.dc)/\w'.cell? (Tab bc 7)=some (.slice a.vp g.F9.length a.vc)/\w'.cell? (Tab bc 8)=some (.slice a.hp g.history.length a.hc)):=fun w' e=>by
  have h2:=(e.block bc vh).trans hx;exact ⟨(e.cell (p:=⟨Bx,1,none⟩) sk).trans hn,cr h2 _ _ rfl,cr h2 _ _ rfl,cr h2 _ _ rfl,cr h2 _ _ rfl,cr h2 _ _ rfl,cr h2 _ _ rfl,cr h2 _ _ rfl,cr h2 _ _ rfl,cr h2 _ _ rfl⟩
 have HS:=aa hS;clear hS;have Rj:Hid (∀ W:World,Below w.heap.size w W->dN (fun k=>ok k/\k<w.heap.size) W g a):=aa fun W hb=>hg.mv ⟨hb.size,fun k hk ho=>⟨⟨ho,hk⟩,hb.block k hk⟩⟩;have HZ:=aa hz;clear hz hg hx hn
 have hC:∀ W:World,Below w.heap.size w W->Calls prog 50 #[.agg (Tae g a),.string nm] W fun e w'=>∃ (tp:Option Addr) (tc:Nat),e=.returned (.tuple #[.agg (Tai x tp tc),.bool Oy])/\aO (fun k=>(ok k/\k<w.heap.size)\/W.heap.size<=k) w' [.string x.name,.int .u64 x.id,.int .i64 x.first,.int .i64 x.Gc,.bool x.closed,.bool x.missing,.slice tp x.tags.length tc] x/\Below W.heap.size W w':=fun W hb=>by
  exact Tbb
 have HC:=aa hC;clear hC Kn N3;refine aL (fun w'=>w'.cell? (Tab Bx 1)=some (.string nm)/\w'.cell? bc=some (.string g.name)/\w'.cell? (Tab bc 1)=some (.int .u64 g.id)/\w'.cell? (Tab bc 2)=some (.int .i64 g.seq)/\w'.cell? (Tab bc 3)=some (.int .i64 g.Gd)/\w'.cell? (Tab bc 4)=some (.int .i64 g.next)/\w'.cell? (Tab bc 5)=some (.slice a.tp g.tags.length a.tc)/\w'.cell? (Tab bc 6)=some (.slice a.dp g.Gb.length a.dc)/\w'.cell? (Tab bc 7)=some (.slice a.vp g.F9.length a.vc)/\w'.cell? (Tab bc 8)=some (.slice a.hp g.history.length a.hc)) 13 [] Tcf (HS.o _ (bj _ _).drew) (fun hHeld=>?_);exact TaU
def jw (g:af)(s:aB):Bool:=s.Ga.all (fun r=>r.vol||(bH g.Gb r.on).isSome)&&(dD s true).all (fun nm=>(aM g.F9 nm).isSome)
theorem oL (s:aB)(pool:Bool)(h:s.Ga.length<=1000000):(dD s pool).length<=1000002:=by
 unfold dD;have:=tk (·.vol) s.Ga;rw [cD,cD,fW];cases s.log.toList.isEmpty <;> cases (pool&&s.kind == 6) <;> simp <;> omega
def bX (w:World)(bc sm:Nat)(g:af)(a:bN):Prop:=w.heap[bc]?=some (.cells #[.string g.name,.int .u64 g.id,.int .i64 g.seq,.int .i64 g.Gd,.int .i64 g.next,.slice a.tp g.tags.length a.tc,.slice a.dp g.Gb.length a.dc,.slice a.vp g.F9.length a.vc,.slice a.hp g.history.length a.hc,.map (some sm)] 141 (0,0))
theorem bX.cells {w:World}{bc sm:Nat}{g:af}{a:bN}(h:bX w bc sm g a):w.cell? bc=some (.string g.name)/\w.cell? (Tab bc 1)=some (.int .u64 g.id)/\w.cell? (Tab bc 2)=some (.int .i64 g.seq)/\w.cell? (Tab bc 3)=some (.int .i64 g.Gd)/\w.cell? (Tab bc 4)=some (.int .i64 g.next) /\
  w.cell? (Tab bc 5)=some (.slice a.tp g.tags.length a.tc)/\w.cell? (Tab bc 6)=some (.slice a.dp g.Gb.length a.dc)/\w.cell? (Tab bc 7)=some (.slice a.vp g.F9.length a.vc)/\w.cell? (Tab bc 8)=some (.slice a.hp g.history.length a.hc):=by
 have h:w.heap[bc]?=_:=h;exact ⟨cr h _ _ rfl,cr h _ _ rfl,cr h _ _ rfl,cr h _ _ rfl,cr h _ _ rfl,cr h _ _ rfl,cr h _ _ rfl,cr h _ _ rfl,cr h _ _ rfl⟩
theorem TcJ {p:Prop}(h:p:=by first | rfl | trivial):p:=h
theorem vC (g:af)(a:bN)(bc:Nat)(s:aB)(u:List Value)(w:World)(kB:gY w bc g a)(hg:dN ok w g a)(hz:JT g)(hv:bC ok w u s)(ha:s.Ga.length<=1000000) :
  Calls prog 143 #[.pointer (some bc),.agg u.toArray] w fun e w'=>e=.returned (.bool (jw g s))/\Below w.heap.size w w':=by
 have jt:=kB.lt;have HV:=aa hv;obtain ⟨av,kp,rfl,gg,hst⟩:=hv;obtain ⟨ap,ac,rfl,Tp,Tq⟩:=gg.cap;obtain ⟨eN,eR,rfl,hsc1,hsc2⟩:=hst.cap;have ya:=aa gg;clear gg hst;obtain ⟨sm,hblk,TZ⟩:=kB;have nw:Hid (bX w bc sm g a):=aa hblk;clear hblk TZ;have HG:=aa hg;clear hg;have HZ:=aa hz;clear hz;have cU:=aa (ae w (.cells (Tad s ap ac eN eR) 79));have HF:Hid (jw g s=_):=aa (jw.eq_1 g s);go_enter func143,ntmps143;go_wp2
 go_loopw [16] (fun i wr=>∃ k:Nat,k<=s.Ga.length/\i=.int .i64 k/\(∀ j r,j<k->s.Ga[j]?=some r->(r.vol||(bH g.Gb r.on).isSome)=true)/\Below w.heap.size w wr/\wr.heap[w.heap.size]?=some (.cells (Tad s ap ac eN eR) 79 (0,0))) (fun i _=>s.Ga.length - (intOf i).toNat)
 case atStart=>exact ⟨0,cg _,rfl,fun j r hj=>by omega,cU.o,b9 w _⟩
 case round =>
  obtain ⟨k,hk,rfl,hall,hB,sk⟩:=hrel;have cE:=aa hall;clear hall;have Fc:=aa sk;clear sk
  by_cases hlt:k<s.Ga.length
  ·obtain ⟨r,hr⟩:=aj s.Ga k hlt
   obtain ⟨b,off,us,rfl,_,cX,ez,eE,hcv⟩:=ya.o.elem hr;obtain rfl:us=_:=eE;have cT:wr.heap[b]?=w.heap[b]?:=hB.block b cX;obtain ⟨q0,q1,q2⟩:=Mn cT hcv;have HR:=aa hr;clear hr;clear hcv ez cT
   go_upto_region 4 with (fail)
   clear q0 q1 q2;have ox:=aa (b9 wr (.cells (Tav r) 60));have eK:=aa (hB.trans ((ae wr (.cells (Tav r) 60)).mono hB.size));have O2:=aa ((cj wr (.cells (Tav r) 60) _ (aq Fc.o)).trans Fc.o);have mA:=hB.size;generalize hW5:World.alloc wr _=W5 at *;generalize Yh:wr.heap.size=Bs at *;clear hW5;refine sM (ok:=ok) _ W5 g a bc sm Bs r.on ((eK.o.block bc jt).trans nw.o) (by simp [World.cell?,ox.o]) (aq ox.o) (HG.o.mv (Mv.of eK.o)) HZ.o _ _ rfl rfl (aa ?_) (fun _ _ _ _ _ h=>h);intro tp tc b7 W7 hb7 KC _ _;have wk:=aa (eK.o.trans (hb7.mono eK.o.size));have Rk:=aa ((hb7.block _ (aq O2.o)).trans O2.o);have KE:=(hb7.block _ (aq ox.o)).trans ox.o;have v0:=cr KE 0 _ rfl
   clear hb7 KC KE ox eK O2
   have o0:Hid ((r.vol||(bH g.Gb r.on).isSome)=false->jw g s=false):=aa fun h=>by
    rw [HF.o,Bool.and_eq_false_iff];refine .inl ?_;rw [cy];exact ⟨r,ct HR.o,TcB⟩
   have kh:Hid ((r.vol||(bH g.Gb r.on).isSome)=true->∀ j y,j<k+1->s.Ga[j]?=some y->(y.vol||(bH g.Gb y.on).isSome)=true):=aa fun h j y hj hy=>by
    by_cases hjk:j=k
    ·subst hjk
     rw [HR.o] at hy;cases hy
     exact h
    ·exact cE.o j y Tcd hy
   generalize N4:(bH g.Gb r.on).isSome=fd at *;generalize Na:r.vol=rv at *;clear N4 Na;cases rv with
   | true =>
    go_wp2;go_roundw
    case rel=>exact ⟨k+1,Tcd,Tch,kh.o TcJ,wk.o,Rk.o⟩
    case measure=>simp [intOf];omega
   | false =>
    cases fd with
    | true =>
     go_wp2;go_roundw
     case rel=>exact ⟨k+1,Tcd,Tch,kh.o TcJ,wk.o,Rk.o⟩
     case measure=>simp [intOf];omega
    | false =>
     go_wp2;go_ret;exact ⟨ah (o0.o TcJ).symm,wk.o⟩
  ·have Ub:Hid (s.Ga.all (fun r=>r.vol||(bH g.Gb r.on).isSome)=true):=aa (by
    rw [eL];intro r hr;obtain ⟨j,hj⟩:=fc hr
    exact cE.o j r TcN hj)
   rw [Ub.o,Bool.true_and] at HF
   have yL:=cr Fc.o
   obtain ⟨y0,y1,y2,y3,y4,y5,y6,y7,y8,y9,y10⟩:=IC yL;have Vx:=aa hB
   go_wp2_with fail
   clear y0 y1 y2 y3 y4 y5 y6 y7 y8 y9 y10 yL;refine (kN (ok:=ok) s true _ _ (bC.moves.mv (Mv.of Vx.o) HV.o) ha).mono ?_;rintro e w3 ⟨uv,rfl,how,hb3⟩;have kf:=how.rd (ok:=fun _=>True) (fun _ _=>trivial);obtain ⟨up,uc,rfl,O3,O4⟩:=kf.cap;have B2:=aa kf;clear kf how;have cJ:=aa (Vx.o.trans (hb3.mono Vx.o.size));clear hb3;have ez:(dD s true).length<=1000002:=oL s true ha;generalize hL:dD s true=L at *;clear hL;go_wp2
   go_loopw [41] (fun i wr=>∃ k:Nat,k<=L.length/\i=.int .i64 k/\(∀ j x,j<k->L[j]?=some x->(aM g.F9 x).isSome=true)/\Below w3.heap.size w3 wr) (fun i _=>L.length - (intOf i).toNat)
   case atStart=>exact ⟨0,cg _,rfl,fun j r hj=>by omega,bj _ _⟩
   case round =>
    obtain ⟨k,hk,rfl,hall,hB⟩:=hrel;have sR:=aa hall;clear hall
    by_cases hlt:k<L.length
    ·obtain ⟨x,hx⟩:=aj L k hlt
     obtain ⟨b,off,us,rfl,_,cX,wb,eE,hcv⟩:=B2.o.elem hx;obtain rfl:us=_:=eE;have q0:=(hB.cell (p:=⟨b,off+k*1+0,none⟩) cX).trans (hcv 0 _ rfl);rw [fp,fg] at q0;have HX:=aa hx;clear hx;have fy:=aa (cJ.o.trans (hB.mono cJ.o.size));obtain ⟨g0,g1,g2,g3,g4,g5,g6,g7,g8⟩:=bX.cells (sm:=sm) ((fy.o.block bc jt).trans nw.o);clear hcv wb
     go_wp2_with fail
     clear g0 g1 g2 g3 g4 g5 g6 g7 g8;refine (fA (ok:=ok) g a x _ (HG.o.mv (Mv.of fy.o)).F9 HZ.o.vl HZ.o.vz).mono ?_;rintro e w5 ⟨u5,rfl,⟨t5,s5,rfl,ht5,hs5⟩,hb5⟩;obtain ⟨tp5,tc5,rfl,_,_⟩:=ht5.cap;obtain ⟨sp5,sc5,rfl,_,_⟩:=hs5.cap;clear ht5 hs5;have hB5:Below w3.heap.size w3 w5:=hB.trans (hb5.mono hB.size);have eK:=aa hB5
     have o0:Hid ((aM g.F9 x).isSome=false->jw g s=false):=aa fun h=>by
      rw [HF.o,cy];exact ⟨x,ct HX.o,TcB⟩
     have kh:Hid ((aM g.F9 x).isSome=true->∀ j y,j<k+1->L[j]?=some y->(aM g.F9 y).isSome=true):=aa fun h j y hj hy=>by
      by_cases hjk:j=k
      ·subst hjk
       rw [HX.o] at hy;cases hy
       exact h
      ·exact sR.o j y Tcd hy
     generalize N4:(aM g.F9 x).isSome=fd at *;generalize (aM g.F9 x).getD eY=vx at *;clear N4 hb5;cases fd with
     | true =>
      go_wp2;go_roundw
      case rel=>exact ⟨k+1,Tcd,Tch,kh.o TcJ,eK.o.alloc eK.o.size _⟩
      case measure=>simp [intOf];omega
     | false =>
      go_wp2;go_ret;exact ⟨ah (o0.o TcJ).symm,(cJ.o.trans (eK.o.mono cJ.o.size)).alloc (by have:=cJ.o.size;have:=eK.o.size;omega) _⟩
    ·have fy:=aa (cJ.o.trans (hB.mono cJ.o.size))
     go_wp2;go_ret;refine ⟨ah (Eq.symm ?_),fy.o⟩;rw [HF.o,eL];intro x hx;obtain ⟨j,hj⟩:=fc hx;exact sR.o j x TcN hj
end Go.Proofs.YtjdfihglehfelaaGreatDoor
