/- Lemmas: ModD, ModE. -/
import Derived.Test.YtjdfihglehfelaaGreatDoorPk15
import Derived.Test.YtjdfihglehfelaaGreatDoorPk16
import Derived.Test.YtjdfihglehfelaaGreatDoorPk13
set_option maxRecDepth 100000
set_option maxHeartbeats 32000000
set_option linter.all false
namespace Go.Proofs.YtjdfihglehfelaaGreatDoor
open Go.RowKit Go.Maps Go.Shelf
def aM (F9:List ay)(nm:ByteArray):Option ay:=F9.find? fun v=>decide (v.name=nm)
def eY:ay:=⟨⟨#[]⟩,0,false,false,[],[]⟩
def F8 (ok:Nat→Prop)(F9:List ay)(nm:ByteArray)(w:World)(e:Ending)(w':World):Prop :=
 ∃ u,e=.returned (.tuple #[.agg u.toArray,.bool (aM F9 nm).isSome])∧D8 ok ((aM F9 nm).getD eY) w u w'
theorem yV {F9:List ay}{nm:ByteArray}(h:∀ (j:Nat) (v:ay),j<F9.length→F9[j]?=some v→¬ v.name=nm):aM F9 nm=none:=by
 unfold aM;rw [List.find?_eq_none];intro v hv;obtain ⟨j,hj⟩:=List.getElem?_of_mem hv;simpa using h j v (List.getElem?_eq_some_iff.1 hj).1 hj
theorem CW {F9:List ay}{nm:ByteArray}{k:Nat}{v:ay}(hno:∀ (j:Nat) (u:ay),j<k→F9[j]?=some u→¬ u.name=nm)(h:F9[k]?=some v)(e:v.name=nm):aM F9 nm=some v:=by
 unfold aM;rw [List.find?_eq_some_iff_getElem];obtain ⟨hk,hv⟩:=List.getElem?_eq_some_iff.1 h;exact ⟨by simpa using e,k,hk,hv,fun j hj=>by simpa using hno j _ hj (List.getElem?_eq_getElem (by omega))⟩
theorem fA {ok:Nat→Prop}(g:af)(a:bN)(nm:ByteArray)(w:World)(hr:RdS aN 6 ok w [.slice a.vp g.F9.length a.vc] g.F9)(hd:g.F9.length≤1000000)(hz:∀ v∈g.F9,qD v) :
  Calls Tryz.prog 95 #[.agg (uY g a).toArray,.string nm] w (F8 ok g.F9 nm w):=by
 obtain ⟨gtp,gtc,gdp,gdc,gvp,gvc,ghp,ghc⟩:=a;dsimp only [uY] at hr ⊢;have HR:=aa hr;clear hr;have HT:=aa hz;clear hz;go_enter Tryz.func95,Tryz.ntmps95;go_wp2
 go_loopw [11] (fun i wr=>∃ k:Nat,k≤g.F9.length∧i=.int .i64 k∧(∀ j D,j<k→g.F9[j]?=some D→¬ D.name=nm)∧Below w.heap.size w wr∧w.heap.size+1<wr.heap.size∧wr.heap[w.heap.size+1]?=some (.cells #[.string ⟨#[]⟩,.int .u64 0,.bool false,.bool false,.slice none 0 0,.slice none 0 0] 55 (0,0))) (fun i _=>g.F9.length - (intOf i).toNat)
 case atStart =>
  refine ⟨0,Nat.zero_le _,rfl,(fun j D hj=>by omega),((Below.refl _ _).alloc (Nat.le_refl _) _).alloc (by simp) _,by simp,?_⟩;have:=heap_alloc_new (w.alloc (.cells #[.string g.name,.int .u64 g.id,.int .i64 g.seq,.int .i64 g.Gd,.int .i64 g.next,.slice gtp g.tags.length gtc,.slice gdp g.Gb.length gdc,.slice gvp g.F9.length gvc,.slice ghp g.history.length ghc] 31)) (.cells #[.string ⟨#[]⟩,.int .u64 0,.bool false,.bool false,.slice none 0 0,.slice none 0 0] 55);rw [World.size_alloc] at this;exact this
 case round =>
  obtain ⟨k,hk,rfl,hno,hB,hz,hR⟩:=hrel;have HNO:=aa hno;clear hno
  by_cases hlt:k<g.F9.length
  ·obtain ⟨v,hv⟩:=aj g.F9 k hlt
   have hsz:=HT.out v (List.mem_of_getElem? hv);have HSZ:=aa hsz;clear hsz;obtain ⟨b,off,u,rfl,hob,hbw,hul,hvv,hcv⟩:=HR.out.elem hv;have HVV:=aa hvv;obtain ⟨tv,sv,rfl,htr,hsr⟩:=hvv;obtain ⟨tp,tc,rfl,_,_⟩:=htr.cap;obtain ⟨sp,sc,rfl,_,_⟩:=hsr.cap;have hbk:wr.heap[b]?=w.heap[b]?:=hB.block b hbw;have q0:=bK hbk (hcv 0 _ rfl);have q1:=ai hbk (hcv 1 _ rfl);have q2:=ai hbk (hcv 2 _ rfl);have q3:=ai hbk (hcv 3 _ rfl);have q4:=ai hbk (hcv 4 _ rfl);have q5:=ai hbk (hcv 5 _ rfl);have HD:=aa hv;clear hv;have HRB:=aa hR;clear hR;clear hcv hul hbk htr hsr
   by_cases hnm:v.name=nm
   ·have hbA:=ae wr (.cells #[.string nm,.int .u64 v.id,.bool v.hidden,.bool v.ro,.slice tp v.tags.length tc,.slice sp v.Gf.length sc] 55)
    have HRA:=aa ((hbA.block _ hz).trans HRB.out);have HBA:=aa (hB.trans (hbA.mono (by omega)));clear hbA;have HDN:=aa hnm
    go_wp2_with fail
    generalize hWA:wr.alloc _=WA at *;clear hWA
    have hvv:aN (fun b=>ok b∧b<w.heap.size) WA [.string nm,.int .u64 v.id,.bool v.hidden,.bool v.ro,.slice tp v.tags.length tc,.slice sp v.Gf.length sc] v:=by
     have:=aN.moves.mv (ok':=fun b=>ok b∧b<w.heap.size) ⟨HBA.out.size,fun b hb ho=>⟨⟨ho,hb⟩,HBA.out.block b hb⟩⟩ HVV.out
     rwa [HDN.out] at this
    have HWZ:=aa HBA.out.size;refine (pO (ok:=fun b=>ok b∧b<w.heap.size) v _ _ hvv HSZ.out).mono ?_;rintro e w3 ⟨u3,rfl,hn3,hb3⟩;obtain ⟨tv3,sv3,rfl,htr3,hsr3⟩:=hn3;have HN3:=aa (show aN _ w3 _ v from ⟨tv3,sv3,rfl,htr3,hsr3⟩);obtain ⟨tp3,tc3,rfl,_,_⟩:=htr3.cap;obtain ⟨sp3,sc3,rfl,_,_⟩:=hsr3.cap;clear htr3 hsr3;have hr3:=(hb3.block _ (lt_of_block HRA.out)).trans HRA.out
    have rL:∀ (j:Nat) (z:Value),[.string ⟨#[]⟩,.int .u64 0,.bool false,.bool false,.slice none 0 0,.slice none 0 0][j]?=some z→w3.cell? ⟨w.heap.size+1,j,none⟩=some z:=fun j z hz=>by
     simp only [World.cell?,hr3];simpa using hz
    have r0:=rL 0 _ rfl;have r1:=rL 1 _ rfl;have r2:=rL 2 _ rfl;have r3:=rL 3 _ rfl;have r4:=rL 4 _ rfl;have r5:=rL 5 _ rfl;have rf:∀ i,w3.frozen? ⟨w.heap.size+1,i,none⟩=false:=fun i=>by simp [World.frozen?,hr3]
    have HB3:=aa (HBA.out.trans (hb3.mono HBA.out.size));have HZA:=aa (lt_of_block HRA.out);have HB3':=aa hb3;clear rL hr3 hb3;have HFO:Hid (aM g.F9 nm=some v):=aa (CW HNO.out HD.out HDN.out);have HN3':=HN3;rw [HDN.out] at HN3'
    have HFIN:Hid (∀ wf:World,(∀ b,b≠w.heap.size+1→wf.heap[b]?=w3.heap[b]?)→wf.heap.size=w3.heap.size→Below w.heap.size w wf→D8 ok ((aM g.F9 nm).getD eY) w [.string nm,.int .u64 v.id,.bool v.hidden,.bool v.ro,.slice tp3 v.tags.length tc3,.slice sp3 v.Gf.length sc3] wf):=aa fun wf hk hz hb=>by
     rw [HFO.out];refine ⟨aN.moves.mv ⟨by omega,fun b hb' ho=>?_⟩ HN3'.out,hb⟩;have hbz:(ok b∧b<w.heap.size)∨WA.heap.size≤b:=ho;have:=HWZ.out;have:=HZA.out;exact ⟨hbz.imp (fun q=>q.1) (fun q=>by omega),hk b (by rcases hbz with q | q <;> omega)⟩
    clear HN3 HN3' HVV HD;go_wp2;refine bodyPost_ret (v:=.tuple #[.agg #[.string nm,.int .u64 v.id,.bool v.hidden,.bool v.ro,.slice tp3 v.tags.length tc3,.slice sp3 v.Gf.length sc3],.bool true]) (by simp [results,Tryz.results95,go_sem,r0,r1,r2,r3,r4,r5]) rfl ⟨[.string nm,.int .u64 v.id,.bool v.hidden,.bool v.ro,.slice tp3 v.tags.length tc3,.slice sp3 v.Gf.length sc3],by rw [HFO.out];rfl,HFIN.out _ (fun b hb=>?_) ?_ ?_⟩
    ·rw [Below.heap_setCell _ _ _ _ hb,Below.heap_setCell _ _ _ _ hb,Below.heap_setCell _ _ _ _ hb,Below.heap_setCell _ _ _ _ hb,Below.heap_setCell _ _ _ _ hb,Below.heap_setCell _ _ _ _ hb]
    ·simp [World.setCell]
    ·have hL:∀ (V:World) (o:Nat) (z:Value),Below w.heap.size w V→Below w.heap.size w (V.setCell ⟨w.heap.size+1,o,none⟩ z):=fun V o z q=>q.setCell (p:=⟨w.heap.size+1,o,none⟩) (by show w.heap.size≤w.heap.size+1;omega) z
     exact hL _ _ _ (hL _ _ _ (hL _ _ _ (hL _ _ _ (hL _ _ _ (hL _ _ _ HB3.out)))))
   ·have e1:=jI hnm
    go_wp2;go_roundw
    case rel =>
     refine ⟨k+1,by omega,by go_num,fun j E hj hE=>?_,hB.alloc (by omega) _,by simp;omega,(Below.heap_alloc _ _ _ (by omega)).trans HRB.out⟩
     by_cases hjk:j=k
     ·subst hjk
      rw [HD.out] at hE;injection hE with hE
      rw [← hE];exact hnm
     ·exact HNO.out j E (by omega) hE
    case measure=>simp [intOf];omega
  ·obtain rfl:k=g.F9.length:=by omega
   have rL:∀ (j:Nat) (z:Value),[.string ⟨#[]⟩,.int .u64 0,.bool false,.bool false,.slice none 0 0,.slice none 0 0][j]?=some z→wr.cell? ⟨w.heap.size+1,j,none⟩=some z:=fun j z hz=>by
    simp only [World.cell?,hR];simpa using hz
   have r0:=rL 0 _ rfl;have r1:=rL 1 _ rfl;have r2:=rL 2 _ rfl;have r3:=rL 3 _ rfl;have r4:=rL 4 _ rfl;have r5:=rL 5 _ rfl;have rf:∀ i,wr.frozen? ⟨w.heap.size+1,i,none⟩=false:=fun i=>by simp [World.frozen?,hR]
   clear rL hR;have HFO:Hid (aM g.F9 nm=none):=aa (yV HNO.out);go_wp2;refine bodyPost_ret (v:=.tuple #[.agg #[.string ⟨#[]⟩,.int .u64 0,.bool false,.bool false,.slice none 0 0,.slice none 0 0],.bool false]) (by simp [results,Tryz.results95,go_sem,r0,r1,r2,r3,r4,r5]) rfl ⟨[.string ⟨#[]⟩,.int .u64 0,.bool false,.bool false,.slice none 0 0,.slice none 0 0],by rw [HFO.out];rfl,by rw [HFO.out];exact ⟨_,_,rfl,RdS.nil,RdS.nil⟩,?_⟩;have hL:∀ (V:World) (o:Nat) (z:Value),Below w.heap.size w V→Below w.heap.size w (V.setCell ⟨w.heap.size+1,o,none⟩ z):=fun V o z q=>q.setCell (p:=⟨w.heap.size+1,o,none⟩) (by show w.heap.size≤w.heap.size+1;omega) z;exact hL _ _ _ (hL _ _ _ (hL _ _ _ (hL _ _ _ (hL _ _ _ (hL _ _ _ hB)))))
def gT:az:=⟨⟨#[]⟩,0,0,0,false,false,[]⟩
def Fu (ok:Nat→Prop)(d:az)(w:World)(u:List Value)(w':World):Prop:=aO (fun b=>ok b∨w.heap.size≤b) w' u d∧Below w.heap.size w w'
def FQ (ok:Nat→Prop)(Gb:List az)(nm:ByteArray)(w:World)(e:Ending)(w':World):Prop :=
 ∃ u,e=.returned (.tuple #[.agg u.toArray,.bool (bH Gb nm).isSome])∧Fu ok ((bH Gb nm).getD gT) w u w'
theorem nZ {ok:Nat→Prop}(g:af)(a:bN)(nm:ByteArray)(w:World)(hr:RdS aO 7 ok w [.slice a.dp g.Gb.length a.dc] g.Gb)(hd:g.Gb.length≤1000000)(hz:∀ d∈g.Gb,d.tags.length≤1000000) :
  Calls Tryz.prog 50 #[.agg (uY g a).toArray,.string nm] w (FQ ok g.Gb nm w):=by
 obtain ⟨gtp,gtc,gdp,gdc,gvp,gvc,ghp,ghc⟩:=a;dsimp only [uY] at hr ⊢;have HR:=aa hr;clear hr;have HT:=aa hz;clear hz;go_enter Tryz.func50,Tryz.ntmps50;go_wp2
 go_loopw [11] (fun i wr=>∃ k:Nat,k≤g.Gb.length∧i=.int .i64 k∧(∀ j D,j<k→g.Gb[j]?=some D→¬ D.name=nm)∧Below w.heap.size w wr∧w.heap.size+1<wr.heap.size∧wr.heap[w.heap.size+1]?=some (.cells #[.string ⟨#[]⟩,.int .u64 0,.int .i64 0,.int .i64 0,.bool false,.bool false,.slice none 0 0] 47 (0,0))) (fun i _=>g.Gb.length - (intOf i).toNat)
 case atStart =>
  refine ⟨0,Nat.zero_le _,rfl,(fun j D hj=>by omega),((Below.refl _ _).alloc (Nat.le_refl _) _).alloc (by simp) _,by simp,?_⟩;have:=heap_alloc_new (w.alloc (.cells #[.string g.name,.int .u64 g.id,.int .i64 g.seq,.int .i64 g.Gd,.int .i64 g.next,.slice gtp g.tags.length gtc,.slice gdp g.Gb.length gdc,.slice gvp g.F9.length gvc,.slice ghp g.history.length ghc] 31)) (.cells #[.string ⟨#[]⟩,.int .u64 0,.int .i64 0,.int .i64 0,.bool false,.bool false,.slice none 0 0] 47);rw [World.size_alloc] at this;exact this
 case round =>
  obtain ⟨k,hk,rfl,hno,hB,hz,hR⟩:=hrel;have HNO:=aa hno;clear hno
  by_cases hlt:k<g.Gb.length
  ·obtain ⟨d,hv⟩:=aj g.Gb k hlt
   have hsz:=HT.out d (List.mem_of_getElem? hv);obtain ⟨b,off,u,rfl,hob,hbw,hul,hvv,hcv⟩:=HR.out.elem hv;obtain ⟨tv,rfl,htr⟩:=hvv;have HTR:=aa htr;obtain ⟨tp,tc,rfl,_,_⟩:=htr.cap;have hbk:wr.heap[b]?=w.heap[b]?:=hB.block b hbw;have q0:=bK hbk (hcv 0 _ rfl);have q1:=ai hbk (hcv 1 _ rfl);have q2:=ai hbk (hcv 2 _ rfl);have q3:=ai hbk (hcv 3 _ rfl);have q4:=ai hbk (hcv 4 _ rfl);have q5:=ai hbk (hcv 5 _ rfl);have q6:=ai hbk (hcv 6 _ rfl);have HD:=aa hv;clear hv;have HRB:=aa hR;clear hR;clear hcv hul hbk htr
   by_cases hnm:d.name=nm
   ·have hbA:=ae wr (.cells #[.string nm,.int .u64 d.id,.int .i64 d.first,.int .i64 d.Gc,.bool d.closed,.bool d.missing,.slice tp d.tags.length tc] 47)
    have HBx:=aa (heap_alloc_new wr (.cells #[.string nm,.int .u64 d.id,.int .i64 d.first,.int .i64 d.Gc,.bool d.closed,.bool d.missing,.slice tp d.tags.length tc] 47));have HRA:=aa ((hbA.block _ hz).trans HRB.out);have HBA:=aa (hB.trans (hbA.mono (by omega)));have HZA:Hid (wr.heap.size<(wr.alloc (.cells #[.string nm,.int .u64 d.id,.int .i64 d.first,.int .i64 d.Gc,.bool d.closed,.bool d.missing,.slice tp d.tags.length tc] 47)).heap.size):=aa (by simp);clear hbA;have HDN:=aa hnm
    go_wp2_with fail
    generalize hWA:wr.alloc _=WA at *;clear hWA;refine (rD (ok:=fun b=>ok b∧b<w.heap.size) d.tags _ _ ((RdS.moves aF.moves).mv ⟨HBA.out.size,fun b hb ho=>⟨⟨ho,hb⟩,HBA.out.block b hb⟩⟩ HTR.out) hsz).mono ?_;rintro e w3 ⟨tv3,rfl,htr3,hb3⟩;obtain ⟨tp3,tc3,rfl,_,_⟩:=htr3.cap;have HT3:=aa htr3;clear htr3;have hx:=(hb3.block _ HZA.out).trans HBx.out;have hr3:=(hb3.block _ (by have:=lt_of_block HRA.out;omega)).trans HRA.out;have HS3:=aa hb3.size;have HB3:=aa (HBA.out.trans (hb3.mono HBA.out.size))
    have xL:∀ (j:Nat) (z:Value),[.string nm,.int .u64 d.id,.int .i64 d.first,.int .i64 d.Gc,.bool d.closed,.bool d.missing,.slice tp d.tags.length tc][j]?=some z→w3.cell? ⟨wr.heap.size,j,none⟩=some z:=fun j z hz=>by
     simp only [World.cell?,hx];simpa using hz
    have rL:∀ (j:Nat) (z:Value),[.string ⟨#[]⟩,.int .u64 0,.int .i64 0,.int .i64 0,.bool false,.bool false,.slice none 0 0][j]?=some z→w3.cell? ⟨w.heap.size+1,j,none⟩=some z:=fun j z hz=>by
     simp only [World.cell?,hr3];simpa using hz
    have x0:=xL 0 _ rfl;have r0:=rL 0 _ rfl;have x1:=xL 1 _ rfl;have r1:=rL 1 _ rfl;have x2:=xL 2 _ rfl;have r2:=rL 2 _ rfl;have x3:=xL 3 _ rfl;have r3:=rL 3 _ rfl;have x4:=xL 4 _ rfl;have r4:=rL 4 _ rfl;have x5:=xL 5 _ rfl;have r5:=rL 5 _ rfl;have x6:=xL 6 _ rfl;have r6:=rL 6 _ rfl;have xf:∀ i,w3.frozen? ⟨wr.heap.size,i,none⟩=false:=fun i=>by simp [World.frozen?,hx]
    have rf:∀ i,w3.frozen? ⟨w.heap.size+1,i,none⟩=false:=fun i=>by simp [World.frozen?,hr3]
    clear xL rL hx hr3 hb3;have HFO:Hid (bH g.Gb nm=some d):=aa (pR HNO.out HD.out HDN.out);have hne:¬ wr.heap.size=w.heap.size+1:=by omega
    have hne2:¬ w.heap.size+1=wr.heap.size:=by omega
    have hwl:=hB.size
    have HFIN:Hid (∀ wf:World,(∀ b,b≠w.heap.size+1→b≠wr.heap.size→wf.heap[b]?=w3.heap[b]?)→wf.heap.size=w3.heap.size→Below w.heap.size w wf→Fu ok ((bH g.Gb nm).getD gT) w [.string nm,.int .u64 d.id,.int .i64 d.first,.int .i64 d.Gc,.bool d.closed,.bool d.missing,.slice tp3 d.tags.length tc3] wf):=aa fun wf hk hz' hb=>by
     rw [HFO.out];refine ⟨⟨_,by rw [← HDN.out];rfl,(RdS.moves aF.moves).mv ⟨by omega,fun b hb' ho=>?_⟩ HT3.out⟩,hb⟩;have hbz:(ok b∧b<w.heap.size)∨WA.heap.size≤b:=ho;have:=HZA.out;exact ⟨hbz.imp (fun q=>q.1) (fun q=>by omega),hk b (by rcases hbz with q | q <;> omega) (by rcases hbz with q | q <;> omega)⟩
    generalize hBx:wr.heap.size=Bx at *;have HBXE:=aa hBx;clear hBx;clear HT3 HTR HD;go_wp2;refine bodyPost_ret (v:=.tuple #[.agg #[.string nm,.int .u64 d.id,.int .i64 d.first,.int .i64 d.Gc,.bool d.closed,.bool d.missing,.slice tp3 d.tags.length tc3],.bool true]) (by simp [results,Tryz.results50,go_sem,r0,r1,r2,r3,r4,r5,r6]) rfl ⟨[.string nm,.int .u64 d.id,.int .i64 d.first,.int .i64 d.Gc,.bool d.closed,.bool d.missing,.slice tp3 d.tags.length tc3],by rw [HFO.out];rfl,HFIN.out _ (fun b hb hb2=>?_) ?_ ?_⟩
    ·rw [Below.heap_setCell _ _ _ _ hb,Below.heap_setCell _ _ _ _ hb,Below.heap_setCell _ _ _ _ hb,Below.heap_setCell _ _ _ _ hb,Below.heap_setCell _ _ _ _ hb,Below.heap_setCell _ _ _ _ hb,Below.heap_setCell _ _ _ _ hb,Below.heap_setCell _ _ _ _ hb2]
    ·simp [World.setCell]
    ·have hL:∀ (V:World) (o:Nat) (z:Value),Below w.heap.size w V→Below w.heap.size w (V.setCell ⟨w.heap.size+1,o,none⟩ z):=fun V o z q=>q.setCell (p:=⟨w.heap.size+1,o,none⟩) (by show w.heap.size≤w.heap.size+1;omega) z
     exact hL _ _ _ (hL _ _ _ (hL _ _ _ (hL _ _ _ (hL _ _ _ (hL _ _ _ (hL _ _ _ (HB3.out.setCell (p:=⟨Bx,6,none⟩) (by show w.heap.size≤Bx;omega) _)))))))
   ·have e1:=jI hnm
    go_wp2;go_roundw
    case rel =>
     refine ⟨k+1,by omega,by go_num,fun j E hj hE=>?_,hB.alloc (by omega) _,by simp;omega,(Below.heap_alloc _ _ _ (by omega)).trans HRB.out⟩
     by_cases hjk:j=k
     ·subst hjk
      rw [HD.out] at hE;injection hE with hE
      rw [← hE];exact hnm
     ·exact HNO.out j E (by omega) hE
    case measure=>simp [intOf];omega
  ·obtain rfl:k=g.Gb.length:=by omega
   have rL:∀ (j:Nat) (z:Value),[.string ⟨#[]⟩,.int .u64 0,.int .i64 0,.int .i64 0,.bool false,.bool false,.slice none 0 0][j]?=some z→wr.cell? ⟨w.heap.size+1,j,none⟩=some z:=fun j z hz=>by
    simp only [World.cell?,hR];simpa using hz
   have r0:=rL 0 _ rfl;have r1:=rL 1 _ rfl;have r2:=rL 2 _ rfl;have r3:=rL 3 _ rfl;have r4:=rL 4 _ rfl;have r5:=rL 5 _ rfl;have r6:=rL 6 _ rfl;have rf:∀ i,wr.frozen? ⟨w.heap.size+1,i,none⟩=false:=fun i=>by simp [World.frozen?,hR]
   clear rL hR;have HFO:Hid (bH g.Gb nm=none):=aa (ui HNO.out);go_wp2;refine bodyPost_ret (v:=.tuple #[.agg #[.string ⟨#[]⟩,.int .u64 0,.int .i64 0,.int .i64 0,.bool false,.bool false,.slice none 0 0],.bool false]) (by simp [results,Tryz.results50,go_sem,r0,r1,r2,r3,r4,r5,r6]) rfl ⟨[.string ⟨#[]⟩,.int .u64 0,.int .i64 0,.int .i64 0,.bool false,.bool false,.slice none 0 0],by rw [HFO.out];rfl,by rw [HFO.out];exact ⟨_,rfl,RdS.nil⟩,?_⟩;have hL:∀ (V:World) (o:Nat) (z:Value),Below w.heap.size w V→Below w.heap.size w (V.setCell ⟨w.heap.size+1,o,none⟩ z):=fun V o z q=>q.setCell (p:=⟨w.heap.size+1,o,none⟩) (by show w.heap.size≤w.heap.size+1;omega) z;exact hL _ _ _ (hL _ _ _ (hL _ _ _ (hL _ _ _ (hL _ _ _ (hL _ _ _ (hL _ _ _ hB))))))
structure GSz (g:af):Prop where
 dl:g.Gb.length≤1000000
 dt:∀ d∈g.Gb,d.tags.length≤1000000
 vl:g.F9.length≤1000000
 vz:∀ v∈g.F9,qD v
theorem sM {ok:Nat→Prop}(Q:Exit→Act→World→Prop)(c1 c2 c3 c4 c5 c7 c8 c9 c10 c11 c12 c13 c14 c15 c16 c17 c18 c19 c20 c21 c22 c23 c24 c25 c26 c27 c28 c29 c30 c31 c32 c33 c34 c35 c36 c37 c38 c39 c40 c41 c42 c43 c44 c45 c46 c47 c48 c49 c50 c51 c52 c53 c54 c55 c56:Value)(w:World)(g:af)(a:bN)(bc sm Bx:Nat)(nm:ByteArray)(hx:w.heap[bc]?=some (.cells #[.string g.name,.int .u64 g.id,.int .i64 g.seq,.int .i64 g.Gd,.int .i64 g.next,.slice a.tp g.tags.length a.tc,.slice a.dp g.Gb.length a.dc,.slice a.vp g.F9.length a.vc,.slice a.hp g.history.length a.hc,.map (some sm)] 141 (0,0)))(hn:w.cell? ⟨Bx,1,none⟩=some (.string nm))(hbx:Bx<w.heap.size)
  (hg:dN ok w g a) (hz:GSz g) (x:az) (isB:Bool) (hxe:(bH g.Gb nm).getD gT=x) (hie:(bH g.Gb nm).isSome=isB)
  (HK:Hid (∀ (tp:Option Addr) (tc:Nat) (b:Nat) (W':World),Below w.heap.size w W'→w.heap.size≤b→W'.heap[b]?=some (.cells #[.string x.name,.int .u64 x.id,.int .i64 x.first,.int .i64 x.Gc,.bool x.closed,.bool x.missing,.slice tp x.tags.length tc] 47 (0,0))→aO (fun k=>(ok k∧k<w.heap.size)∨(w.heap.size≤k∧k≠b)) W' [.string x.name,.int .u64 x.id,.int .i64 x.first,.int .i64 x.Gc,.bool x.closed,.bool x.missing,.slice tp x.tags.length tc] x→Q .normal ⟨#[.pointer (some ⟨bc,0,none⟩),c1,c2,c3,c4,c5,.pointer (some ⟨Bx,0,none⟩),.pointer (some ⟨b,0,none⟩),.bool isB,c9,c10,c11,c12,c13,c14,c15,c16,c17,c18,c19,.tuple #[.agg #[.string x.name,.int .u64 x.id,.int .i64 x.first,.int .i64 x.Gc,.bool x.closed,.bool x.missing,.slice tp x.tags.length tc],.bool isB],.pointer (some ⟨bc,0,none⟩),.pointer (some ⟨bc,0,none⟩),.pointer (some ⟨bc,0,none⟩),.agg #[.string g.name,.int .u64 g.id,.int .i64 g.seq,.int .i64 g.Gd,.int .i64 g.next,.slice a.tp g.tags.length a.tc,.slice a.dp g.Gb.length a.dc,.slice a.vp g.F9.length a.vc,.slice a.hp g.history.length a.hc],.pointer (some ⟨Bx,1,none⟩),.string nm,.tuple #[.agg #[.string x.name,.int .u64 x.id,.int .i64 x.first,.int .i64 x.Gc,.bool x.closed,.bool x.missing,.slice tp x.tags.length tc],.bool isB],.agg #[.string x.name,.int .u64 x.id,.int .i64 x.first,.int .i64 x.Gc,.bool x.closed,.bool x.missing,.slice tp x.tags.length tc],.bool isB,c30,c31,c32,c33,c34,c35,c36,c37,c38,c39,c40,c41,c42,c43,c44,c45,c46,c47,c48,c49,c50,c51,c52,c53,c54,c55,c56],[]⟩ W'))
  (hQ:∀ c (a:Act) (d:Tmp) (v:Value) w,Q (.panic c) (a.put (some d) v) w→Q (.panic c) a w) :
  (Ai Tryz.f143 4).wp Tryz.prog Q ⟨#[.pointer (some ⟨bc,0,none⟩),c1,c2,c3,c4,c5,.pointer (some ⟨Bx,0,none⟩),c7,c8,c9,c10,c11,c12,c13,c14,c15,c16,c17,c18,c19,c20,c21,c22,c23,c24,c25,c26,c27,c28,c29,c30,c31,c32,c33,c34,c35,c36,c37,c38,c39,c40,c41,c42,c43,c44,c45,c46,c47,c48,c49,c50,c51,c52,c53,c54,c55,c56],[]⟩ w:=by
 conv=>arg 2;whnf
 have hxl:=lt_of_block hx
 have hS:∀ w':World,Below w.heap.size w w'→(w'.cell? ⟨Bx,1,none⟩=some (.string nm)∧w'.cell? ⟨bc,0,none⟩=some (.string g.name)∧w'.cell? ⟨bc,1,none⟩=some (.int .u64 g.id)∧w'.cell? ⟨bc,2,none⟩=some (.int .i64 g.seq)∧w'.cell? ⟨bc,3,none⟩=some (.int .i64 g.Gd)∧w'.cell? ⟨bc,4,none⟩=some (.int .i64 g.next)∧w'.cell? ⟨bc,5,none⟩=some (.slice a.tp g.tags.length a.tc)∧w'.cell? ⟨bc,6,none⟩=some (.slice a.dp g.Gb.length a.dc)∧w'.cell? ⟨bc,7,none⟩=some (.slice a.vp g.F9.length a.vc)∧w'.cell? ⟨bc,8,none⟩=some (.slice a.hp g.history.length a.hc)):=fun w' e=>by
  have h2:=(e.block bc hxl).trans hx;exact ⟨(e.cell (p:=⟨Bx,1,none⟩) hbx).trans hn,by simp [World.cell?,h2],by simp [World.cell?,h2],by simp [World.cell?,h2],by simp [World.cell?,h2],by simp [World.cell?,h2],by simp [World.cell?,h2],by simp [World.cell?,h2],by simp [World.cell?,h2],by simp [World.cell?,h2]⟩
 have HS:=aa hS;clear hS;have HGM:Hid (∀ W:World,Below w.heap.size w W→dN (fun k=>ok k∧k<w.heap.size) W g a):=aa fun W hb=>hg.mv ⟨hb.size,fun k hk ho=>⟨⟨ho,hk⟩,hb.block k hk⟩⟩;have HZ:=aa hz;clear hz hg hx hn
 have hC:∀ W:World,Below w.heap.size w W→Calls Tryz.prog 50 #[.agg #[.string g.name,.int .u64 g.id,.int .i64 g.seq,.int .i64 g.Gd,.int .i64 g.next,.slice a.tp g.tags.length a.tc,.slice a.dp g.Gb.length a.dc,.slice a.vp g.F9.length a.vc,.slice a.hp g.history.length a.hc],.string nm] W fun e w'=>∃ (tp:Option Addr) (tc:Nat),e=.returned (.tuple #[.agg #[.string x.name,.int .u64 x.id,.int .i64 x.first,.int .i64 x.Gc,.bool x.closed,.bool x.missing,.slice tp x.tags.length tc],.bool isB])∧aO (fun k=>(ok k∧k<w.heap.size)∨W.heap.size≤k) w' [.string x.name,.int .u64 x.id,.int .i64 x.first,.int .i64 x.Gc,.bool x.closed,.bool x.missing,.slice tp x.tags.length tc] x∧Below W.heap.size W w':=fun W hb=>by
  refine (nZ g a nm W (ok:=fun k=>ok k∧k<w.heap.size) (dN.Gb (HGM.out W hb)) HZ.out.dl HZ.out.dt).mono ?_;rintro e w' ⟨u,rfl,hv,hb'⟩;rw [hxe] at hv;rw [hie];obtain ⟨t,rfl,ht⟩:=hv;obtain ⟨tp,tc,rfl,h1,h2⟩:=ht.cap;have hvv:aO _ w' _ _:=⟨_,rfl,ht⟩;exact ⟨_,_,rfl,hvv,hb'⟩
 have HC:=aa hC;clear hC hxe hie;refine aL (fun w'=>w'.cell? ⟨Bx,1,none⟩=some (.string nm)∧w'.cell? ⟨bc,0,none⟩=some (.string g.name)∧w'.cell? ⟨bc,1,none⟩=some (.int .u64 g.id)∧w'.cell? ⟨bc,2,none⟩=some (.int .i64 g.seq)∧w'.cell? ⟨bc,3,none⟩=some (.int .i64 g.Gd)∧w'.cell? ⟨bc,4,none⟩=some (.int .i64 g.next)∧w'.cell? ⟨bc,5,none⟩=some (.slice a.tp g.tags.length a.tc)∧w'.cell? ⟨bc,6,none⟩=some (.slice a.dp g.Gb.length a.dc)∧w'.cell? ⟨bc,7,none⟩=some (.slice a.vp g.F9.length a.vc)∧w'.cell? ⟨bc,8,none⟩=some (.slice a.hp g.history.length a.hc)) 13 [] (by kernel_rfl) (HS.out _ (Below.refl _ _).drew) (fun hHeld=>?_);refine tkE hQ 0 hHeld ?_;try simp only [ak];refine tkE hQ 1 hHeld ?_;try simp only [ak];refine tkE hQ 2 hHeld ?_;try simp only [ak];refine tkE hQ 3 hHeld ?_;try simp only [ak];refine tkE hQ 4 hHeld ?_;try simp only [ak];refine tkE hQ 5 hHeld ?_;try simp only [ak];refine mh (i:=6) (j:=10) rfl rfl rfl rfl (by kernel_rfl) (fun K hK=>?_) (fun K hK=>?_)
 ·go_simp
  refine (HC.out _ (Below.refl _ _).drew).mono ?_;rintro e w1 ⟨tp,tc,rfl,hv1,hb1⟩;have hb1':Below w.heap.size w w1:=⟨hb1.os,hb1.tape,hb1.output,hb1.size,hb1.block⟩;refine hK.out _ _ (HS.out _ hb1') ?_;clear hK K hHeld;have hHeld:=HS.out _ hb1';have HV1:=aa hv1;clear hv1 hb1;have HB1:=aa hb1';clear hb1';refine tkE hQ 7 hHeld ?_;try simp only [ak];refine tkE hQ 8 hHeld ?_;try simp only [ak];refine tkE hQ 9 hHeld ?_;try simp only [ak];refine au (i:=10) rfl rfl (by kernel_rfl) (fun K hK=>?_);go_simp;have hb2:Below w.heap.size w (w1.alloc (.cells #[.string ⟨#[]⟩,.int .u64 0,.int .i64 0,.int .i64 0,.bool false,.bool false,.slice none 0 0] 47)):=HB1.out.alloc HB1.out.size _;refine hK.out _ _ (HS.out _ hb2) ?_;clear hK K hHeld;have hnew:=heap_alloc_new w1 (.cells #[.string ⟨#[]⟩,.int .u64 0,.int .i64 0,.int .i64 0,.bool false,.bool false,.slice none 0 0] 47);have hbs:w1.heap.size<(w1.alloc (.cells #[.string ⟨#[]⟩,.int .u64 0,.int .i64 0,.int .i64 0,.bool false,.bool false,.slice none 0 0] 47)).heap.size:=by simp
  have hv2:aO (fun k=>(ok k∧k<w.heap.size)∨(w.heap.size≤k∧k<w1.heap.size)) (w1.alloc (.cells #[.string ⟨#[]⟩,.int .u64 0,.int .i64 0,.int .i64 0,.bool false,.bool false,.slice none 0 0] 47)) [.string x.name,.int .u64 x.id,.int .i64 x.first,.int .i64 x.Gc,.bool x.closed,.bool x.missing,.slice tp x.tags.length tc] x:=aO.moves.mv ⟨by simp,fun k hk ho=>⟨ho.imp id (fun q=>⟨q,hk⟩),Below.heap_alloc _ _ _ hk⟩⟩ HV1.out;have hwz:=HB1.out.size;generalize hW2:World.alloc w1 _=W2 at *;generalize hb0:w1.heap.size=b0 at *;clear hW2 hb0 HV1 HB1;have HV2:=aa hv2;clear hv2;have HB2:=aa hb2;clear hb2;have z0:W2.cell? ⟨b0,0,none⟩=some (.string ⟨#[]⟩):=by simp [World.cell?,hnew]
  have z1:W2.cell? ⟨b0,1,none⟩=some (.int .u64 0):=by simp [World.cell?,hnew]
  have z2:W2.cell? ⟨b0,2,none⟩=some (.int .i64 0):=by simp [World.cell?,hnew]
  have z3:W2.cell? ⟨b0,3,none⟩=some (.int .i64 0):=by simp [World.cell?,hnew]
  have z4:W2.cell? ⟨b0,4,none⟩=some (.bool false):=by simp [World.cell?,hnew]
  have z5:W2.cell? ⟨b0,5,none⟩=some (.bool false):=by simp [World.cell?,hnew]
  have z6:W2.cell? ⟨b0,6,none⟩=some (.slice none 0 0):=by simp [World.cell?,hnew]
  have zf:∀ i,W2.frozen? ⟨b0,i,none⟩=false:=fun i=>by simp [World.frozen?,hnew]
  have HBK:=aa (block_setCell (i:=6) (.slice tp x.tags.length tc) (block_setCell (i:=5) (.bool x.missing) (block_setCell (i:=4) (.bool x.closed) (block_setCell (i:=3) (.int .i64 x.Gc) (block_setCell (i:=2) (.int .i64 x.first) (block_setCell (i:=1) (.int .u64 x.id) (block_setCell (w:=W2) (i:=0) (.string x.name) hnew)))))));have HZ0:Hid (∀ (V:World) (o:Nat) (z:Value),Below w.heap.size w V→Below w.heap.size w (V.setCell ⟨b0,o,none⟩ z)):=aa fun V o z q=>q.setCell (p:=⟨b0,o,none⟩) hwz z;clear hnew;refine au (i:=11) rfl rfl (by kernel_rfl) (fun K hK=>?_);go_simp;have hb3:Below w.heap.size w (World.setCell (World.setCell (World.setCell (World.setCell (World.setCell (World.setCell (World.setCell W2 ⟨b0,0,none⟩ (.string x.name)) ⟨b0,1,none⟩ (.int .u64 x.id)) ⟨b0,2,none⟩ (.int .i64 x.first)) ⟨b0,3,none⟩ (.int .i64 x.Gc)) ⟨b0,4,none⟩ (.bool x.closed)) ⟨b0,5,none⟩ (.bool x.missing)) ⟨b0,6,none⟩ (.slice tp x.tags.length tc)):=(HZ0.out _ _ _ (HZ0.out _ _ _ (HZ0.out _ _ _ (HZ0.out _ _ _ (HZ0.out _ _ _ (HZ0.out _ _ _ (HZ0.out _ _ _ HB2.out)))))));refine hK.out _ _ (HS.out _ hb3) ?_;clear hK K;refine au (i:=12) rfl rfl (by kernel_rfl) (fun K hK=>?_);go_simp;refine hK.out _ _ (HS.out _ hb3) ?_;clear hK K;refine aP (by kernel_rfl) rfl ?_;simp only [List.drop_succ_cons,List.drop_nil,List.drop_zero];refine HK.out _ _ b0 _ hb3 hwz HBK.out (aO.moves.mv ⟨by simp [World.setCell],fun k hk ho=>⟨?_,?_⟩⟩ HV2.out)
  ·exact ho.imp id (fun q=>⟨q.1,by omega⟩)
  ·have hkb:k≠b0:=by rcases ho with q | q <;> omega
   rw [Below.heap_setCell _ _ _ _ hkb,Below.heap_setCell _ _ _ _ hkb,Below.heap_setCell _ _ _ _ hkb,Below.heap_setCell _ _ _ _ hkb,Below.heap_setCell _ _ _ _ hkb,Below.heap_setCell _ _ _ _ hkb,Below.heap_setCell _ _ _ _ hkb]
 ·go_simp
  have hb2:Below w.heap.size w (w.drew.alloc (.cells #[.string ⟨#[]⟩,.int .u64 0,.int .i64 0,.int .i64 0,.bool false,.bool false,.slice none 0 0] 47)):=((Below.refl _ _).drew).alloc (Nat.le_refl _) _;refine hK.out _ _ (HS.out _ hb2) ?_;clear hK K hHeld;have hHeld:=HS.out _ hb2;refine au (i:=6) rfl rfl (by kernel_rfl) (fun K hK=>?_);go_simp;refine (HC.out _ hb2).mono ?_;rintro e w1 ⟨tp,tc,rfl,hv1,hb1⟩;have hb1':Below w.heap.size w w1:=hb2.trans (hb1.mono hb2.size);refine hK.out _ _ (HS.out _ hb1') ?_;clear hK K hHeld;have hHeld:=HS.out _ hb1';have hnew:=(hb1.block _ (by simp)).trans (heap_alloc_new w.drew (.cells #[.string ⟨#[]⟩,.int .u64 0,.int .i64 0,.int .i64 0,.bool false,.bool false,.slice none 0 0] 47));have hv2:aO (fun k=>(ok k∧k<w.heap.size)∨(w.heap.size≤k∧w.heap.size<k)) w1 [.string x.name,.int .u64 x.id,.int .i64 x.first,.int .i64 x.Gc,.bool x.closed,.bool x.missing,.slice tp x.tags.length tc] x:=aO.moves.mv ⟨Nat.le_refl _,fun k hk ho=>⟨ho.imp id (fun q=>by simp at q;omega),rfl⟩⟩ hv1;have hwz:w.heap.size≤w.heap.size:=Nat.le_refl _;have hnew:w1.heap[w.heap.size]?=some (.cells #[.string ⟨#[]⟩,.int .u64 0,.int .i64 0,.int .i64 0,.bool false,.bool false,.slice none 0 0] 47 (0,0)):=hnew;clear hb2;have hb2:=hb1';clear hv1 hb1 hb1';generalize w1=W2 at *;refine tkE hQ 7 hHeld ?_;try simp only [ak];refine tkE hQ 8 hHeld ?_;try simp only [ak];refine tkE hQ 9 hHeld ?_;try simp only [ak];have HV2:=aa hv2;clear hv2;have HB2:=aa hb2;clear hb2;have z0:W2.cell? ⟨w.heap.size,0,none⟩=some (.string ⟨#[]⟩):=by simp [World.cell?,hnew]
  have z1:W2.cell? ⟨w.heap.size,1,none⟩=some (.int .u64 0):=by simp [World.cell?,hnew]
  have z2:W2.cell? ⟨w.heap.size,2,none⟩=some (.int .i64 0):=by simp [World.cell?,hnew]
  have z3:W2.cell? ⟨w.heap.size,3,none⟩=some (.int .i64 0):=by simp [World.cell?,hnew]
  have z4:W2.cell? ⟨w.heap.size,4,none⟩=some (.bool false):=by simp [World.cell?,hnew]
  have z5:W2.cell? ⟨w.heap.size,5,none⟩=some (.bool false):=by simp [World.cell?,hnew]
  have z6:W2.cell? ⟨w.heap.size,6,none⟩=some (.slice none 0 0):=by simp [World.cell?,hnew]
  have zf:∀ i,W2.frozen? ⟨w.heap.size,i,none⟩=false:=fun i=>by simp [World.frozen?,hnew]
  have HBK:=aa (block_setCell (i:=6) (.slice tp x.tags.length tc) (block_setCell (i:=5) (.bool x.missing) (block_setCell (i:=4) (.bool x.closed) (block_setCell (i:=3) (.int .i64 x.Gc) (block_setCell (i:=2) (.int .i64 x.first) (block_setCell (i:=1) (.int .u64 x.id) (block_setCell (w:=W2) (i:=0) (.string x.name) hnew)))))));have HZ0:Hid (∀ (V:World) (o:Nat) (z:Value),Below w.heap.size w V→Below w.heap.size w (V.setCell ⟨w.heap.size,o,none⟩ z)):=aa fun V o z q=>q.setCell (p:=⟨w.heap.size,o,none⟩) hwz z;clear hnew;refine au (i:=11) rfl rfl (by kernel_rfl) (fun K hK=>?_);go_simp;have hb3:Below w.heap.size w (World.setCell (World.setCell (World.setCell (World.setCell (World.setCell (World.setCell (World.setCell W2 ⟨w.heap.size,0,none⟩ (.string x.name)) ⟨w.heap.size,1,none⟩ (.int .u64 x.id)) ⟨w.heap.size,2,none⟩ (.int .i64 x.first)) ⟨w.heap.size,3,none⟩ (.int .i64 x.Gc)) ⟨w.heap.size,4,none⟩ (.bool x.closed)) ⟨w.heap.size,5,none⟩ (.bool x.missing)) ⟨w.heap.size,6,none⟩ (.slice tp x.tags.length tc)):=(HZ0.out _ _ _ (HZ0.out _ _ _ (HZ0.out _ _ _ (HZ0.out _ _ _ (HZ0.out _ _ _ (HZ0.out _ _ _ (HZ0.out _ _ _ HB2.out)))))));refine hK.out _ _ (HS.out _ hb3) ?_;clear hK K;refine au (i:=12) rfl rfl (by kernel_rfl) (fun K hK=>?_);go_simp;refine hK.out _ _ (HS.out _ hb3) ?_;clear hK K;refine aP (by kernel_rfl) rfl ?_;simp only [List.drop_succ_cons,List.drop_nil,List.drop_zero];refine HK.out _ _ w.heap.size _ hb3 hwz HBK.out (aO.moves.mv ⟨by simp [World.setCell],fun k hk ho=>⟨?_,?_⟩⟩ HV2.out)
  ·exact ho.imp id (fun q=>⟨q.1,by omega⟩)
  ·have hkb:k≠w.heap.size:=by rcases ho with q | q <;> omega
   rw [Below.heap_setCell _ _ _ _ hkb,Below.heap_setCell _ _ _ _ hkb,Below.heap_setCell _ _ _ _ hkb,Below.heap_setCell _ _ _ _ hkb,Below.heap_setCell _ _ _ _ hkb,Below.heap_setCell _ _ _ _ hkb,Below.heap_setCell _ _ _ _ hkb]
end Go.Proofs.YtjdfihglehfelaaGreatDoor
