/- Lemmas: ModO, ModP, ModQ, ModR. -/
import Derived.Test.YtjdfihglehfelaaGreatDoorPk22
set_option maxRecDepth 100000
set_option maxHeartbeats 32000000
set_option linter.all false
namespace Go.Proofs.YtjdfihglehfelaaGreatDoor
open Go.RowKit Go.Maps Go.Shelf
theorem RdS.take {α:Type}{V:Rdr α}{sz:Nat}{ok:Nat→Prop}{w:World}{p:Option Addr}{cap:Nat}{l:List α}(h:RdS V sz ok w [.slice p l.length cap] l)(k:Nat)(hk:k≤l.length):RdS V sz ok w [.slice p k cap] (l.take k):=by
 obtain ⟨p',c',e,h1,h2,h3⟩:=h;injection e with e
 injection e with e1 _ e3
 subst e1;subst e3;have hl:(l.take k).length=k:=by simp;omega
 refine ⟨p,cap,by rw [hl],by omega,h2,fun h0=>?_⟩;obtain ⟨b,off,hp,hb,ho,hc⟩:=h3 (by omega)
 exact ⟨b,off,hp,hb,ho,fun i x hx=>hc i x (by
  rw [List.getElem?_take] at hx;split at hx
  ·exact hx
  ·cases hx)⟩
def dG (d x:az):Bool:=x.name.toList == d.name.toList||x.id == d.id
theorem vR {ok:Nat→Prop}(x d:az)(u:List Value)(Bd:Nat)(w:World)(hu:aO ok w u x)(h0:w.cell? ⟨Bd,0,none⟩=some (.string d.name))(h1:w.cell? ⟨Bd,1,none⟩=some (.int .u64 d.id))(hb:Bd<w.heap.size) :
  Calls Tryz.prog 136 #[.agg u.toArray,.pointer (some ⟨Bd,0,none⟩)] w fun e w'=>e=.returned (.bool (dG d x))∧Below w.heap.size w w':=by
 obtain ⟨tv,rfl,htr⟩:=hu;obtain ⟨tp,tc,rfl,_,_⟩:=htr.cap;clear htr;have hA:=ae w (.cells #[.string x.name,.int .u64 x.id,.int .i64 x.first,.int .i64 x.Gc,.bool x.closed,.bool x.missing,.slice tp x.tags.length tc] 47);have HA:=aa hA;have HM:Hid (dG d x=_):=aa (dG.eq_1 d x);have d0:=(hA.cell (p:=⟨Bd,0,none⟩) hb).trans h0;have d1:=(hA.cell (p:=⟨Bd,1,none⟩) hb).trans h1;clear hA h0 h1;cases hn:x.name.toList == d.name.toList with
 | true =>
  rw [hn] at HM;go_enter Tryz.func136,Tryz.ntmps136;go_wp2;go_ret;exact ⟨ah (by rw [HM.out];rfl),HA.out⟩
 | false =>
  rw [hn] at HM;go_enter Tryz.func136,Tryz.ntmps136;go_wp2;go_ret;exact ⟨ah (by rw [HM.out];rfl),HA.out⟩
theorem sF {ok:Nat→Prop}(l:List az)(d:az)(p:Option Addr)(cap Bd:Nat)(w:World)(hr:RdS aO 7 ok w [.slice p l.length cap] l)(hl:l.length≤1000000)(h0:w.cell? ⟨Bd,0,none⟩=some (.string d.name))(h1:w.cell? ⟨Bd,1,none⟩=some (.int .u64 d.id))(hb:Bd<w.heap.size) :
  Calls Tryz.prog 185 #[.slice p l.length cap,.func (.func 136) #[] #[.pointer (some ⟨Bd,0,none⟩)]] w
   fun e w'=>(∃ r:Int,e=.returned (.int .i64 r)∧decide (0≤r)=l.any (dG d))∧Below w.heap.size w w':=by
 obtain ⟨p',c',e,hc1,hc2⟩:=hr.cap;injection e with e1 _ e3
 subst e1;subst e3;have HR:=aa hr;clear hr;have H0:=aa h0;clear h0;have H1:=aa h1;clear h1;go_enter Tryz.func185,Tryz.ntmps185;go_wp2
 go_loopw [8,5] (fun i _ wr=>∃ k:Nat,k≤l.length∧i=.int .i64 k∧Below w.heap.size w wr∧(l.take k).any (dG d)=false) (fun i _ _=>l.length - (intOf i).toNat)
 case atStart=>exact ⟨0,Nat.zero_le _,rfl,Below.refl _ _,rfl⟩
 case round =>
  obtain ⟨k,hk,rfl,hB,hall⟩:=hrel;have HALL:=aa hall;clear hall
  by_cases hlt:k<l.length
  ·obtain ⟨x,hx⟩:=aj l k hlt
   obtain ⟨b,off,us,hbo,hob,hbw,hul,hvs,hcv⟩:=HR.out.elem hx;subst hbo;have HV:=aa hvs;obtain ⟨tv,rfl,htr⟩:=hvs;obtain ⟨tp,tc,rfl,_,_⟩:=htr.cap;clear htr;have hbk:wr.heap[b]?=w.heap[b]?:=hB.block b hbw;have q0:=bK hbk (hcv 0 _ rfl);have q1:=ai hbk (hcv 1 _ rfl);have q2:=ai hbk (hcv 2 _ rfl);have q3:=ai hbk (hcv 3 _ rfl);have q4:=ai hbk (hcv 4 _ rfl);have q5:=ai hbk (hcv 5 _ rfl);have q6:=ai hbk (hcv 6 _ rfl);have HANY:Hid ((l.take (k+1)).any (dG d)=dG d x):=aa (by rw [take_snoc' l k x hx,List.any_append,HALL.out];simp);have HANY2:Hid (dG d x=true→l.any (dG d)=true):=aa fun h=>List.any_eq_true.2 ⟨x,List.mem_of_getElem? hx,h⟩;clear hcv hul hbk hx HALL;have hwz:=hB.size
   go_wp2_with fail
   refine (vR (ok:=ok) x d _ Bd wr (aO.moves.mv (Mv.of hB) HV.out) ((hB.cell hb).trans H0.out) ((hB.cell hb).trans H1.out) (by omega)).mono ?_;rintro e w3 ⟨rfl,hb3⟩;have HB3:=aa (hB.trans (hb3.mono hB.size));clear hb3 q0;cases hs:dG d x with
   | true =>
    have HR2:=aa (HANY2.out hs);clear hs;go_wp2;go_ret;exact ⟨⟨k,rfl,by rw [HR2.out];simp⟩,HB3.out⟩
   | false =>
    have HR2:=aa (HANY.out.trans hs);clear hs;go_wp2;go_roundw
    case rel=>exact ⟨k+1,by omega,by go_num,HB3.out,HR2.out⟩
    case measure=>simp [intOf];omega
  ·obtain rfl:k=l.length:=by omega
   rw [List.take_length] at HALL;go_wp2;go_ret;exact ⟨⟨-1,rfl,by rw [HALL.out];rfl⟩,hB⟩
theorem sN {ok:Nat→Prop}(l:List az)(d:az)(p:Option Addr)(cap Bd:Nat)(w:World)(hr:RdS aO 7 ok w [.slice p l.length cap] l)(hl:l.length≤1000000)(h0:w.cell? ⟨Bd,0,none⟩=some (.string d.name))(h1:w.cell? ⟨Bd,1,none⟩=some (.int .u64 d.id))(hb:Bd<w.heap.size) :
  Calls Tryz.prog 135 #[.slice p l.length cap,.func (.func 136) #[] #[.pointer (some ⟨Bd,0,none⟩)]] w
   fun e w'=>e=.returned (.bool (l.any (dG d)))∧Below w.heap.size w w':=by
 go_enter Tryz.func135,Tryz.ntmps135
 go_wp2_with fail
 refine (sF (ok:=ok) l d p cap Bd w hr hl h0 h1 hb).mono ?_;rintro e w2 ⟨⟨r,rfl,hr2⟩,hb2⟩;have HR:=aa hr2;clear hr2;have HB:=aa hb2;clear hb2;go_wp2;go_ret;exact ⟨ah HR.out,HB.out⟩
def fC (d x:ay):Bool:=x.name.toList == d.name.toList||x.id == d.id
theorem wh {ok:Nat→Prop}(x d:ay)(u:List Value)(Bd:Nat)(w:World)(hu:aN ok w u x)(h0:w.cell? ⟨Bd,0,none⟩=some (.string d.name))(h1:w.cell? ⟨Bd,1,none⟩=some (.int .u64 d.id))(hb:Bd<w.heap.size) :
  Calls Tryz.prog 138 #[.agg u.toArray,.pointer (some ⟨Bd,0,none⟩)] w fun e w'=>e=.returned (.bool (fC d x))∧Below w.heap.size w w':=by
 obtain ⟨tv,sv,rfl,htr,hsr⟩:=hu;obtain ⟨tp,tc,rfl,_,_⟩:=htr.cap;obtain ⟨sp,sc,rfl,_,_⟩:=hsr.cap;clear htr hsr;have hA:=ae w (.cells #[.string x.name,.int .u64 x.id,.bool x.hidden,.bool x.ro,.slice tp x.tags.length tc,.slice sp x.Gf.length sc] 55);have HA:=aa hA;have HM:Hid (fC d x=_):=aa (fC.eq_1 d x);have d0:=(hA.cell (p:=⟨Bd,0,none⟩) hb).trans h0;have d1:=(hA.cell (p:=⟨Bd,1,none⟩) hb).trans h1;clear hA h0 h1;cases hn:x.name.toList == d.name.toList with
 | true =>
  rw [hn] at HM;go_enter Tryz.func138,Tryz.ntmps138;go_wp2;go_ret;exact ⟨ah (by rw [HM.out];rfl),HA.out⟩
 | false =>
  rw [hn] at HM;go_enter Tryz.func138,Tryz.ntmps138;go_wp2;go_ret;exact ⟨ah (by rw [HM.out];rfl),HA.out⟩
theorem uK {ok:Nat→Prop}(l:List ay)(d:ay)(p:Option Addr)(cap Bd:Nat)(w:World)(hr:RdS aN 6 ok w [.slice p l.length cap] l)(hl:l.length≤1000000)(h0:w.cell? ⟨Bd,0,none⟩=some (.string d.name))(h1:w.cell? ⟨Bd,1,none⟩=some (.int .u64 d.id))(hb:Bd<w.heap.size) :
  Calls Tryz.prog 186 #[.slice p l.length cap,.func (.func 138) #[] #[.pointer (some ⟨Bd,0,none⟩)]] w
   fun e w'=>(∃ r:Int,e=.returned (.int .i64 r)∧decide (0≤r)=l.any (fC d))∧Below w.heap.size w w':=by
 obtain ⟨p',c',e,hc1,hc2⟩:=hr.cap;injection e with e1 _ e3
 subst e1;subst e3;have HR:=aa hr;clear hr;have H0:=aa h0;clear h0;have H1:=aa h1;clear h1;go_enter Tryz.func186,Tryz.ntmps186;go_wp2
 go_loopw [8,5] (fun i _ wr=>∃ k:Nat,k≤l.length∧i=.int .i64 k∧Below w.heap.size w wr∧(l.take k).any (fC d)=false) (fun i _ _=>l.length - (intOf i).toNat)
 case atStart=>exact ⟨0,Nat.zero_le _,rfl,Below.refl _ _,rfl⟩
 case round =>
  obtain ⟨k,hk,rfl,hB,hall⟩:=hrel;have HALL:=aa hall;clear hall
  by_cases hlt:k<l.length
  ·obtain ⟨x,hx⟩:=aj l k hlt
   obtain ⟨b,off,us,hbo,hob,hbw,hul,hvs,hcv⟩:=HR.out.elem hx;subst hbo;have HV:=aa hvs;obtain ⟨tv,sv,rfl,htr,hsr⟩:=hvs;obtain ⟨tp,tc,rfl,_,_⟩:=htr.cap;obtain ⟨sp,sc,rfl,_,_⟩:=hsr.cap;clear htr hsr;have hbk:wr.heap[b]?=w.heap[b]?:=hB.block b hbw;have q0:=bK hbk (hcv 0 _ rfl);have q1:=ai hbk (hcv 1 _ rfl);have q2:=ai hbk (hcv 2 _ rfl);have q3:=ai hbk (hcv 3 _ rfl);have q4:=ai hbk (hcv 4 _ rfl);have q5:=ai hbk (hcv 5 _ rfl);have HANY:Hid ((l.take (k+1)).any (fC d)=fC d x):=aa (by rw [take_snoc' l k x hx,List.any_append,HALL.out];simp);have HANY2:Hid (fC d x=true→l.any (fC d)=true):=aa fun h=>List.any_eq_true.2 ⟨x,List.mem_of_getElem? hx,h⟩;clear hcv hul hbk hx HALL;have hwz:=hB.size
   go_wp2_with fail
   refine (wh (ok:=ok) x d _ Bd wr (aN.moves.mv (Mv.of hB) HV.out) ((hB.cell hb).trans H0.out) ((hB.cell hb).trans H1.out) (by omega)).mono ?_;rintro e w3 ⟨rfl,hb3⟩;have HB3:=aa (hB.trans (hb3.mono hB.size));clear hb3 q0;cases hs:fC d x with
   | true =>
    have HR2:=aa (HANY2.out hs);clear hs;go_wp2;go_ret;exact ⟨⟨k,rfl,by rw [HR2.out];simp⟩,HB3.out⟩
   | false =>
    have HR2:=aa (HANY.out.trans hs);clear hs;go_wp2;go_roundw
    case rel=>exact ⟨k+1,by omega,by go_num,HB3.out,HR2.out⟩
    case measure=>simp [intOf];omega
  ·obtain rfl:k=l.length:=by omega
   rw [List.take_length] at HALL;go_wp2;go_ret;exact ⟨⟨-1,rfl,by rw [HALL.out];rfl⟩,hB⟩
theorem vH {ok:Nat→Prop}(l:List ay)(d:ay)(p:Option Addr)(cap Bd:Nat)(w:World)(hr:RdS aN 6 ok w [.slice p l.length cap] l)(hl:l.length≤1000000)(h0:w.cell? ⟨Bd,0,none⟩=some (.string d.name))(h1:w.cell? ⟨Bd,1,none⟩=some (.int .u64 d.id))(hb:Bd<w.heap.size) :
  Calls Tryz.prog 137 #[.slice p l.length cap,.func (.func 138) #[] #[.pointer (some ⟨Bd,0,none⟩)]] w
   fun e w'=>e=.returned (.bool (l.any (fC d)))∧Below w.heap.size w w':=by
 go_enter Tryz.func137,Tryz.ntmps137
 go_wp2_with fail
 refine (uK (ok:=ok) l d p cap Bd w hr hl h0 h1 hb).mono ?_;rintro e w2 ⟨⟨r,rfl,hr2⟩,hb2⟩;have HR:=aa hr2;clear hr2;have HB:=aa hb2;clear hb2;go_wp2;go_ret;exact ⟨ah HR.out,HB.out⟩
def gZ {α:Type}(nm:α→ByteArray)(f:Nat→α→Int):Nat→List α→ByteArray × Int
 | _,[]=>(⟨#[]⟩,0)
 | i,x :: r=>if f i x=0 then gZ nm f (i+1) r else (nm x,f i x)
theorem uj {α:Type}(nm:α→ByteArray)(f:Nat→α→Int){l:List α}{k:Nat}{x:α}(h:l[k]?=some x):gZ nm f k (l.drop k)=if f k x=0 then gZ nm f (k+1) (l.drop (k+1)) else (nm x,f k x):=by
 rw [drop_at h];rfl
def jQ (g:af)(d:az):Prop:=0≤d.first∧d.first≤65536∧0≤d.Gc∧d.Gc≤4096∧d.first+d.Gc*g.Gd≤65536
instance (g:af) (d:az):Decidable (jQ g d):=by unfold jQ;infer_instance
def pg (g:af)(i:Nat)(d:az):Int:=if jo d.name=false then 10 else if (g.Gb.take i).any (dG d)=true then 9 else if ¬ jQ g d then 1 else eP d.tags
def dw (g:af):ByteArray × Int:=gZ az.name (pg g) 0 g.Gb
theorem A7 {ok:Nat→Prop}(g:af)(a:bN)(bc:Nat)(w:World)(hck:gY w bc g a)(hg:dN ok w g a)(hz:GTx g)(hx:1≤g.Gd∧g.Gd≤1024)(hS:Sfx w) :
  Calls Tryz.prog 84 #[.pointer (some ⟨bc,0,none⟩)] w (gX (dw g) w):=by
 have hbcl:=hck.lt;obtain ⟨sm,hblk,hmap⟩:=hck;have HCB:Hid (bX w bc sm g a):=aa hblk;clear hblk hmap;obtain ⟨g0,g1,g2,g3,g4,g5,g6,g7,g8⟩:=bX.cells HCB.out;have HG:=aa hg.Gb;have HZ:=aa hz;have HX:=aa hx;have HS:=aa hS;have hdl:=hz.dl;obtain ⟨vp,vc,hvpc,hvc1,hvc2⟩:=hg.Gb.cap;clear hg hz hx hS;injection hvpc with e1 e2 e3
 obtain ⟨gtp,gtc,gdp,gdc,gvp,gvc,ghp,ghc⟩:=a;dsimp only at e1 e2 e3 g0 g1 g2 g3 g4 g5 g6 g7 g8;subst e1;subst e3;clear e2;go_enter Tryz.func84,Tryz.ntmps84;go_wp2;clear g0 g1 g2 g3 g4 g5 g6 g7 g8
 go_loopw [14,4,5,6,7] (fun i _ _ _ _ wr=>∃ k:Nat,k≤g.Gb.length∧i=.int .i64 k∧Below w.heap.size w wr∧dw g=gZ az.name (pg g) k (g.Gb.drop k)) (fun i _ _ _ _ _=>g.Gb.length - (intOf i).toNat)
 case atStart=>exact ⟨0,Nat.zero_le _,rfl,Below.refl _ _,rfl⟩
 case round =>
  obtain ⟨k,hk,rfl,hB,he⟩:=hrel;have HE:=aa he;clear he
  by_cases hlt:k<g.Gb.length
  ·obtain ⟨d,hd⟩:=aj g.Gb k hlt
   rw [uj _ _ hd] at HE;obtain ⟨b,off,us,rfl,hob,hbw,hul,hvs,hcv⟩:=HG.out.elem hd;have hdm:=List.mem_of_getElem? hd;have hdz:=HZ.out.disk d hdm;have hnsz:=hdz.1;have HTX:=aa hdz.2;obtain ⟨tv,rfl,htr⟩:=hvs;obtain ⟨tp,tc,rfl,_,_⟩:=htr.cap;have HTR:=aa htr;have hbk:wr.heap[b]?=w.heap[b]?:=hB.block b hbw;have q0:=bK hbk (hcv 0 _ rfl);have q1:=ai hbk (hcv 1 _ rfl);have q2:=ai hbk (hcv 2 _ rfl);have q3:=ai hbk (hcv 3 _ rfl);have q4:=ai hbk (hcv 4 _ rfl);have q5:=ai hbk (hcv 5 _ rfl);have q6:=ai hbk (hcv 6 _ rfl);clear hcv hul hbk htr hdz hdm hd;have HBd:=aa (heap_alloc_new wr (.cells #[.string d.name,.int .u64 d.id,.int .i64 d.first,.int .i64 d.Gc,.bool d.closed,.bool d.missing,.slice tp d.tags.length tc] 47));have hA:=ae wr (.cells #[.string d.name,.int .u64 d.id,.int .i64 d.first,.int .i64 d.Gc,.bool d.closed,.bool d.missing,.slice tp d.tags.length tc] 47);have HB1:=aa (hB.trans (hA.mono hB.size));have hCB1:=((HB1.out.block bc hbcl).trans HCB.out);obtain ⟨g0,g1,g2,g3,g4,g5,g6,g7,g8⟩:=bX.cells (sm:=sm) hCB1;clear hA hCB1
   go_wp2_with fail
   clear q0 q1 q2 q3 q4 q5 q6 g0 g1 g2 g3 g4 g5 g6 g7 g8;generalize hW1:World.alloc wr _=W1 at *;generalize hBd:wr.heap.size=Bd at *;clear hW1 hBd;have hlk:(g.Gb.take k).length=k:=by simp;omega
   have hcall:=sN (ok:=ok) (g.Gb.take k) d (some ⟨b,off,none⟩) gdc Bd W1 (by rw [hlk];exact RdS.take ((RdS.moves aO.moves).mv (Mv.of HB1.out) HG.out) k hk) (by omega) (by simp [World.cell?,HBd.out]) (by simp [World.cell?,HBd.out]) (lt_of_block HBd.out);rw [hlk] at hcall;refine hcall.mono ?_;clear hcall hlk hB;rintro e w2 ⟨rfl,hb2⟩;have HB2:=aa (HB1.out.trans (hb2.mono HB1.out.size));have HBd2:=aa ((hb2.block _ (lt_of_block HBd.out)).trans HBd.out);clear hb2 HB1 HBd;have HDE:Hid (pg g k d=_):=aa (pg.eq_1 g k d);generalize (g.Gb.take k).any (dG d)=tw at *;have n0:w2.cell? ⟨Bd,0,none⟩=some (.string d.name):=by simp [World.cell?,HBd2.out]
   go_wp2_with fail
   refine (fT d.name w2 hnsz (HS.out.below HB2.out)).mono ?_;rintro e w3 ⟨rfl,hb3⟩;have HB3:=aa (HB2.out.trans (hb3.mono HB2.out.size));have HBd3:=aa ((hb3.block _ (lt_of_block HBd2.out)).trans HBd2.out);clear hb3 HB2 HBd2 n0;have n0:w3.cell? ⟨Bd,0,none⟩=some (.string d.name):=by simp [World.cell?,HBd3.out]
   cases hvb:jo d.name with
   | false =>
    rw [if_pos hvb] at HDE;have HR:Hid (dw g=(d.name,10)):=aa (by rw [HE.out,HDE.out];rfl);clear hvb;go_wp2;go_ret2;exact ⟨by rw [HR.out];rfl,HB3.out⟩
   | true =>
    rw [if_neg (by rw [hvb];decide)] at HDE;clear hvb;cases tw with
    | true =>
     rw [if_pos rfl] at HDE;have HR:Hid (dw g=(d.name,9)):=aa (by rw [HE.out,HDE.out];rfl);go_wp2;go_ret2;exact ⟨by rw [HR.out];rfl,HB3.out⟩
    | false =>
     rw [if_neg (by decide)] at HDE;have n2:w3.cell? ⟨Bd,2,none⟩=some (.int .i64 d.first):=by simp [World.cell?,HBd3.out]
     have n3:w3.cell? ⟨Bd,3,none⟩=some (.int .i64 d.Gc):=by simp [World.cell?,HBd3.out]
     have n6:w3.cell? ⟨Bd,6,none⟩=some (.slice tp d.tags.length tc):=by simp [World.cell?,HBd3.out]
     obtain ⟨-,-,-,g3,-,-,-,-,-⟩:=bX.cells (sm:=sm) ((HB3.out.block bc hbcl).trans HCB.out);have hx1:=HX.out.1;have hx2:=HX.out.2
     by_cases hr:jQ g d
     ·rw [if_neg (fun h=>h hr)] at HDE
      obtain ⟨r1,r2,r3,r4,r5⟩:=hr;have m1:0≤d.Gc*g.Gd:=Int.mul_nonneg r3 (by omega);have w1:IntKind.i64.wrap (d.Gc*g.Gd)=d.Gc*g.Gd:=IntWalk.i64_in _ (by omega);have w2:IntKind.i64.wrap (d.first+d.Gc*g.Gd)=d.first+d.Gc*g.Gd:=IntWalk.i64_in _ (by omega);have k1:decide (d.first<0)=false:=decide_eq_false (by omega);have k2:decide (65536<d.first)=false:=decide_eq_false (by omega);have k3:decide (d.Gc<0)=false:=decide_eq_false (by omega);have k4:decide (4096<d.Gc)=false:=decide_eq_false (by omega);have k5:decide (65536<d.first+d.Gc*g.Gd)=false:=decide_eq_false (by omega)
      go_upto_region 9 with (fail)
      go_quiet (fail);clear k1 k2 k3 k4 k5 w1 w2 m1 r1 r2 r3 r4 r5 n2 n3 g3;have hB4:=fun n=>aT HB3.out n;have hBd4:∀ n,(w3.drewN n).heap[Bd]?=_:=fun n=>HBd3.out;have n0':∀ n,(w3.drewN n).cell? ⟨Bd,0,none⟩=some (.string d.name):=fun n=>n0
      go_wp2_with fail
      clear HB3 HBd3 n0 n6;generalize hW4:w3.drewN _=W4 at *;have HB4:Hid (Below w.heap.size w W4):=aa (hW4 ▸ hB4 _);have HBd4:=aa (hW4 ▸ hBd4 _);clear hB4 hBd4 n0' hW4;refine (kZ (ok:=ok) d.tags _ W4 ((RdS.moves aF.moves).mv (Mv.of HB4.out) HTR.out) HTX.out.1 HTX.out.2).mono ?_;rintro e w5 ⟨rfl,hb5⟩;have HB5:=aa (HB4.out.trans (hb5.mono HB4.out.size));have HBd5:=aa ((hb5.block _ (lt_of_block HBd4.out)).trans HBd4.out);clear hb5 HB4 HBd4;have n0:w5.cell? ⟨Bd,0,none⟩=some (.string d.name):=by simp [World.cell?,HBd5.out]
      by_cases ht:eP d.tags=0
      ·have htt:(eP d.tags != 0)=false:=by rw [ht];rfl
       have HR:Hid (dw g=gZ az.name (pg g) (k+1) (g.Gb.drop (k+1))):=aa (by rw [HE.out,if_pos (by rw [HDE.out,ht])]);clear ht;go_wp2;go_roundw
       case rel=>exact ⟨k+1,by omega,by go_num,HB5.out,HR.out⟩
       case measure=>simp [intOf];omega
      ·have htt:(eP d.tags != 0)=true:=by simpa using ht
       have HR:Hid (dw g=(d.name,eP d.tags)):=aa (by rw [HE.out,HDE.out,if_neg ht]);clear ht;go_wp2;go_ret2;exact ⟨by rw [HR.out];rfl,HB5.out⟩
     ·rw [if_pos hr] at HDE
      have HR:Hid (dw g=(d.name,1)):=aa (by rw [HE.out,HDE.out];rfl)
      by_cases r1:d.first<0
      ·have k1:decide (d.first<0)=true:=decide_eq_true r1
       go_upto_region 9 with (fail)
       go_quiet (fail);go_wp2;go_ret2;exact ⟨by rw [HR.out];rfl,aT HB3.out _⟩
      ·have k1:decide (d.first<0)=false:=decide_eq_false r1
       by_cases r2:65536<d.first
       ·have k2:decide (65536<d.first)=true:=decide_eq_true r2
        go_upto_region 9 with (fail)
        go_quiet (fail);go_wp2;go_ret2;exact ⟨by rw [HR.out];rfl,aT HB3.out _⟩
       ·have k2:decide (65536<d.first)=false:=decide_eq_false r2
        by_cases r3:d.Gc<0
        ·have k3:decide (d.Gc<0)=true:=decide_eq_true r3
         go_upto_region 9 with (fail)
         go_quiet (fail);go_wp2;go_ret2;exact ⟨by rw [HR.out];rfl,aT HB3.out _⟩
        ·have k3:decide (d.Gc<0)=false:=decide_eq_false r3
         by_cases r4:4096<d.Gc
         ·have k4:decide (4096<d.Gc)=true:=decide_eq_true r4
          go_upto_region 9 with (fail)
          go_quiet (fail);go_wp2;go_ret2;exact ⟨by rw [HR.out];rfl,aT HB3.out _⟩
         ·have k4:decide (4096<d.Gc)=false:=decide_eq_false r4
          have m1:0≤d.Gc*g.Gd:=Int.mul_nonneg (by omega) (by omega);have m2:d.Gc*g.Gd≤4096*1024:=Int.mul_le_mul (by omega) (by omega) (by omega) (by omega);have w1:IntKind.i64.wrap (d.Gc*g.Gd)=d.Gc*g.Gd:=IntWalk.i64_in _ (by omega);have w2:IntKind.i64.wrap (d.first+d.Gc*g.Gd)=d.first+d.Gc*g.Gd:=IntWalk.i64_in _ (by omega);have k5:decide (65536<d.first+d.Gc*g.Gd)=true:=decide_eq_true (by unfold jQ at hr;omega);clear hr m1 m2
          go_upto_region 9 with (fail)
          go_quiet (fail);go_wp2;go_ret2;exact ⟨by rw [HR.out];rfl,aT HB3.out _⟩
  ·obtain rfl:k=g.Gb.length:=by omega
   have HR:Hid (dw g=(⟨#[]⟩,0)):=aa (by rw [HE.out,List.drop_length];rfl);go_wp2;go_ret2;exact ⟨by rw [HR.out];rfl,hB⟩
def nE (v:ay):Bool:=if v.hidden then zH v.name else jo v.name
def yH (g:af)(i:Nat)(v:ay):Int:=if nE v=false then 10 else if (g.F9.take i).any (fC v)=true then 9 else if ¬ (1≤v.Gf.length∧v.Gf.length≤64) then 4 else eP v.tags
def dJ (g:af):ByteArray × Int:=gZ ay.name (yH g) 0 g.F9
theorem wQ {ok:Nat→Prop}(g:af)(a:bN)(bc:Nat)(w:World)(hck:gY w bc g a)(hg:dN ok w g a)(hz:GTx g)(hS:Sfx w) :
  Calls Tryz.prog 85 #[.pointer (some ⟨bc,0,none⟩)] w (gX (dJ g) w):=by
 have hbcl:=hck.lt;obtain ⟨sm,hblk,hmap⟩:=hck;have HCB:Hid (bX w bc sm g a):=aa hblk;clear hblk hmap;obtain ⟨g0,g1,g2,g3,g4,g5,g6,g7,g8⟩:=bX.cells HCB.out;have HG:=aa hg.F9;have HZ:=aa hz;have HS:=aa hS;have hdl:=hz.vl;obtain ⟨vp,vc,hvpc,hvc1,hvc2⟩:=hg.F9.cap;clear hg hz hS;injection hvpc with e1 e2 e3
 obtain ⟨gtp,gtc,gdp,gdc,gvp,gvc,ghp,ghc⟩:=a;dsimp only at e1 e2 e3 g0 g1 g2 g3 g4 g5 g6 g7 g8;subst e1;subst e3;clear e2;go_enter Tryz.func85,Tryz.ntmps85;go_wp2;clear g0 g1 g2 g3 g4 g5 g6 g7 g8
 go_loopw [14,4,5,6,7] (fun i _ _ _ _ wr=>∃ k:Nat,k≤g.F9.length∧i=.int .i64 k∧Below w.heap.size w wr∧dJ g=gZ ay.name (yH g) k (g.F9.drop k)) (fun i _ _ _ _ _=>g.F9.length - (intOf i).toNat)
 case atStart=>exact ⟨0,Nat.zero_le _,rfl,Below.refl _ _,rfl⟩
 case round =>
  obtain ⟨k,hk,rfl,hB,he⟩:=hrel;have HE:=aa he;clear he
  by_cases hlt:k<g.F9.length
  ·obtain ⟨v,hd⟩:=aj g.F9 k hlt
   rw [uj _ _ hd] at HE;obtain ⟨b,off,us,rfl,hob,hbw,hul,hvs,hcv⟩:=HG.out.elem hd;have hdm:=List.mem_of_getElem? hd;have hdz:=HZ.out.vol v hdm;have hnsz:=hdz.1;have HTX:=aa hdz.2;obtain ⟨tv,sv,rfl,htr,hsr⟩:=hvs;obtain ⟨tp,tc,rfl,_,_⟩:=htr.cap;obtain ⟨sp,sc,rfl,hs1,hs2⟩:=hsr.cap;have HTR:=aa htr;have hbk:wr.heap[b]?=w.heap[b]?:=hB.block b hbw;have q0:=bK hbk (hcv 0 _ rfl);have q1:=ai hbk (hcv 1 _ rfl);have q2:=ai hbk (hcv 2 _ rfl);have q3:=ai hbk (hcv 3 _ rfl);have q4:=ai hbk (hcv 4 _ rfl);have q5:=ai hbk (hcv 5 _ rfl);clear hcv hul hbk htr hsr hdz hdm hd;have HBd:=aa (heap_alloc_new wr (.cells #[.string v.name,.int .u64 v.id,.bool v.hidden,.bool v.ro,.slice tp v.tags.length tc,.slice sp v.Gf.length sc] 55));have hA:=ae wr (.cells #[.string v.name,.int .u64 v.id,.bool v.hidden,.bool v.ro,.slice tp v.tags.length tc,.slice sp v.Gf.length sc] 55);have HB1:=aa (hB.trans (hA.mono hB.size));have hCB1:=((HB1.out.block bc hbcl).trans HCB.out);obtain ⟨g0,g1,g2,g3,g4,g5,g6,g7,g8⟩:=bX.cells (sm:=sm) hCB1;clear hA hCB1
   go_wp2_with fail
   clear q0 q1 q2 q3 q4 q5 g0 g1 g2 g3 g4 g5 g6 g7 g8;generalize hW1:World.alloc wr _=W1 at *;generalize hBd:wr.heap.size=Bd at *;clear hW1 hBd;have hlk:(g.F9.take k).length=k:=by simp;omega
   have hcall:=vH (ok:=ok) (g.F9.take k) v (some ⟨b,off,none⟩) gvc Bd W1 (by rw [hlk];exact RdS.take ((RdS.moves aN.moves).mv (Mv.of HB1.out) HG.out) k hk) (by omega) (by simp [World.cell?,HBd.out]) (by simp [World.cell?,HBd.out]) (lt_of_block HBd.out);rw [hlk] at hcall;refine hcall.mono ?_;clear hcall hlk hB;rintro e w2 ⟨rfl,hb2⟩;have HB2:=aa (HB1.out.trans (hb2.mono HB1.out.size));have HBd2:=aa ((hb2.block _ (lt_of_block HBd.out)).trans HBd.out);clear hb2 HB1 HBd;have HDE:Hid (yH g k v=_):=aa (yH.eq_1 g k v);generalize (g.F9.take k).any (fC v)=tw at *;have n0:w2.cell? ⟨Bd,0,none⟩=some (.string v.name):=by simp [World.cell?,HBd2.out]
   have HNM:Hid (nE v=_):=aa (nE.eq_1 v);have HH:Hid ((∀ b,v.hidden=b→w2.cell? ⟨Bd,2,none⟩=some (.bool b))):=aa (by rintro b rfl;simp [World.cell?,HBd2.out]);cases hvh:v.hidden with
   | true =>
    have n2:=HH.out _ hvh;rw [hvh,if_pos rfl] at HNM
    go_wp2_with fail
    refine (qO v.name w2 hnsz (HS.out.below HB2.out)).mono ?_;rintro e w3 ⟨rfl,hb3⟩;have HB3:=aa (HB2.out.trans (hb3.mono HB2.out.size));have HBd3:=aa ((hb3.block _ (lt_of_block HBd2.out)).trans HBd2.out);clear hb3 HB2 HBd2 n0;have n0:w3.cell? ⟨Bd,0,none⟩=some (.string v.name):=by simp [World.cell?,HBd3.out]
    have n2':w3.cell? ⟨Bd,2,none⟩=some (.bool true):=by simp [World.cell?,HBd3.out,hvh]
    rw [← HNM.out];clear hvh n2;generalize nE v=nm at *;cases nm with
    | false =>
     rw [if_pos rfl] at HDE;have HR:Hid (dJ g=(v.name,10)):=aa (by rw [HE.out,HDE.out];rfl);go_wp2;go_ret2;exact ⟨by rw [HR.out];rfl,HB3.out⟩
    | true =>
     rw [if_neg (by decide)] at HDE;cases tw with
     | true =>
      rw [if_pos rfl] at HDE;have HR:Hid (dJ g=(v.name,9)):=aa (by rw [HE.out,HDE.out];rfl);go_wp2;go_ret2;exact ⟨by rw [HR.out];rfl,HB3.out⟩
     | false =>
      rw [if_neg (by decide)] at HDE;have n5:w3.cell? ⟨Bd,5,none⟩=some (.slice sp v.Gf.length sc):=by simp [World.cell?,HBd3.out]
      have n4:w3.cell? ⟨Bd,4,none⟩=some (.slice tp v.tags.length tc):=by simp [World.cell?,HBd3.out]
      by_cases hr:1≤v.Gf.length∧v.Gf.length≤64
      ·rw [if_neg (fun h=>h hr)] at HDE
       have k1:decide ((v.Gf.length:Int)<1)=false:=decide_eq_false (by omega);have k2:decide ((64:Int)<(v.Gf.length:Int))=false:=decide_eq_false (by omega);clear hr
       go_wp2_with fail
       refine (kZ (ok:=ok) v.tags _ w3 ((RdS.moves aF.moves).mv (Mv.of HB3.out) HTR.out) HTX.out.1 HTX.out.2).mono ?_;rintro e w5 ⟨rfl,hb5⟩;have HB5:=aa (HB3.out.trans (hb5.mono HB3.out.size));have n0':w5.cell? ⟨Bd,0,none⟩=some (.string v.name):=by simp [World.cell?,(hb5.block _ (lt_of_block HBd3.out)).trans HBd3.out]
       clear hb5 HB3 HBd3 n0 n2' n4 n5 k1 k2
       by_cases ht:eP v.tags=0
       ·have htt:(eP v.tags != 0)=false:=by rw [ht];rfl
        have HR:Hid (dJ g=gZ ay.name (yH g) (k+1) (g.F9.drop (k+1))):=aa (by rw [HE.out,if_pos (by rw [HDE.out,ht])]);clear ht;go_wp2;go_roundw
        case rel=>exact ⟨k+1,by omega,by go_num,HB5.out,HR.out⟩
        case measure=>simp [intOf];omega
       ·have htt:(eP v.tags != 0)=true:=by simpa using ht
        have HR:Hid (dJ g=(v.name,eP v.tags)):=aa (by rw [HE.out,HDE.out,if_neg ht]);clear ht;go_wp2;go_ret2;exact ⟨by rw [HR.out];rfl,HB5.out⟩
      ·rw [if_pos hr] at HDE
       have HR:Hid (dJ g=(v.name,4)):=aa (by rw [HE.out,HDE.out];rfl)
       by_cases r1:v.Gf.length<1
       ·have k1:decide ((v.Gf.length:Int)<1)=true:=decide_eq_true (by omega)
        go_wp2;go_ret2;exact ⟨by rw [HR.out];rfl,HB3.out⟩
       ·have k1:decide ((v.Gf.length:Int)<1)=false:=decide_eq_false (by omega)
        have k2:decide ((64:Int)<(v.Gf.length:Int))=true:=decide_eq_true (by omega);go_wp2;go_ret2;exact ⟨by rw [HR.out];rfl,HB3.out⟩
   | false =>
    have n2:=HH.out _ hvh;rw [hvh,if_neg (by decide)] at HNM
    go_wp2_with fail
    refine (fT v.name w2 hnsz (HS.out.below HB2.out)).mono ?_;rintro e w3 ⟨rfl,hb3⟩;have HB3:=aa (HB2.out.trans (hb3.mono HB2.out.size));have HBd3:=aa ((hb3.block _ (lt_of_block HBd2.out)).trans HBd2.out);clear hb3 HB2 HBd2 n0;have n0:w3.cell? ⟨Bd,0,none⟩=some (.string v.name):=by simp [World.cell?,HBd3.out]
    have n2':w3.cell? ⟨Bd,2,none⟩=some (.bool false):=by simp [World.cell?,HBd3.out,hvh]
    rw [← HNM.out];clear hvh n2;generalize nE v=nm at *;cases nm with
    | false =>
     rw [if_pos rfl] at HDE;have HR:Hid (dJ g=(v.name,10)):=aa (by rw [HE.out,HDE.out];rfl);go_wp2;go_ret2;exact ⟨by rw [HR.out];rfl,HB3.out⟩
    | true =>
     rw [if_neg (by decide)] at HDE;cases tw with
     | true =>
      rw [if_pos rfl] at HDE;have HR:Hid (dJ g=(v.name,9)):=aa (by rw [HE.out,HDE.out];rfl);go_wp2;go_ret2;exact ⟨by rw [HR.out];rfl,HB3.out⟩
     | false =>
      rw [if_neg (by decide)] at HDE;have n5:w3.cell? ⟨Bd,5,none⟩=some (.slice sp v.Gf.length sc):=by simp [World.cell?,HBd3.out]
      have n4:w3.cell? ⟨Bd,4,none⟩=some (.slice tp v.tags.length tc):=by simp [World.cell?,HBd3.out]
      by_cases hr:1≤v.Gf.length∧v.Gf.length≤64
      ·rw [if_neg (fun h=>h hr)] at HDE
       have k1:decide ((v.Gf.length:Int)<1)=false:=decide_eq_false (by omega);have k2:decide ((64:Int)<(v.Gf.length:Int))=false:=decide_eq_false (by omega);clear hr
       go_wp2_with fail
       refine (kZ (ok:=ok) v.tags _ w3 ((RdS.moves aF.moves).mv (Mv.of HB3.out) HTR.out) HTX.out.1 HTX.out.2).mono ?_;rintro e w5 ⟨rfl,hb5⟩;have HB5:=aa (HB3.out.trans (hb5.mono HB3.out.size));have n0':w5.cell? ⟨Bd,0,none⟩=some (.string v.name):=by simp [World.cell?,(hb5.block _ (lt_of_block HBd3.out)).trans HBd3.out]
       clear hb5 HB3 HBd3 n0 n2' n4 n5 k1 k2
       by_cases ht:eP v.tags=0
       ·have htt:(eP v.tags != 0)=false:=by rw [ht];rfl
        have HR:Hid (dJ g=gZ ay.name (yH g) (k+1) (g.F9.drop (k+1))):=aa (by rw [HE.out,if_pos (by rw [HDE.out,ht])]);clear ht;go_wp2;go_roundw
        case rel=>exact ⟨k+1,by omega,by go_num,HB5.out,HR.out⟩
        case measure=>simp [intOf];omega
       ·have htt:(eP v.tags != 0)=true:=by simpa using ht
        have HR:Hid (dJ g=(v.name,eP v.tags)):=aa (by rw [HE.out,HDE.out,if_neg ht]);clear ht;go_wp2;go_ret2;exact ⟨by rw [HR.out];rfl,HB5.out⟩
      ·rw [if_pos hr] at HDE
       have HR:Hid (dJ g=(v.name,4)):=aa (by rw [HE.out,HDE.out];rfl)
       by_cases r1:v.Gf.length<1
       ·have k1:decide ((v.Gf.length:Int)<1)=true:=decide_eq_true (by omega)
        go_wp2;go_ret2;exact ⟨by rw [HR.out];rfl,HB3.out⟩
       ·have k1:decide ((v.Gf.length:Int)<1)=false:=decide_eq_false (by omega)
        have k2:decide ((64:Int)<(v.Gf.length:Int))=true:=decide_eq_true (by omega);go_wp2;go_ret2;exact ⟨by rw [HR.out];rfl,HB3.out⟩
  ·obtain rfl:k=g.F9.length:=by omega
   have HR:Hid (dJ g=(⟨#[]⟩,0)):=aa (by rw [HE.out,List.drop_length];rfl);go_wp2;go_ret2;exact ⟨by rw [HR.out];rfl,hB⟩
def dO (g:af)(nm:ByteArray):Int:=C8 ((aM g.F9 nm).getD eY)
theorem Eh:qD eY:=⟨by simp [eY],by simp [eY],by simp [eY]⟩
theorem Dt {g:af}(hz:GSz g)(nm:ByteArray):qD ((aM g.F9 nm).getD eY):=by
 cases h:aM g.F9 nm with
 | none=>exact Eh
 | some v=>exact hz.vz v (List.mem_of_find?_eq_some h)
theorem yC {ok:Nat→Prop}(g:af)(a:bN)(bc Bc:Nat)(nm:ByteArray)(w:World)(hck:gY w bc g a)(hcc:w.cell? ⟨Bc,0,none⟩=some (.pointer (some ⟨bc,0,none⟩)))(hg:dN ok w g a)(hz:GSz g) :
  Calls Tryz.prog 148 #[.string nm,.pointer (some ⟨Bc,0,none⟩)] w fun e w'=>e=.returned (.int .i64 (dO g nm))∧Below w.heap.size w w':=by
 have hbcl:=hck.lt;obtain ⟨sm,hblk,_⟩:=hck;have HCB:Hid (bX w bc sm g a):=aa hblk;clear hblk;obtain ⟨g0,g1,g2,g3,g4,g5,g6,g7,g8⟩:=bX.cells HCB.out;have HG:=aa hg;clear hg;have HZ:=aa hz;clear hz;have hvz:=Dt HZ.out nm;have hsl:=hvz.Gf;have HL:Hid (dO g nm=_):=aa (dO.eq_1 g nm);go_enter Tryz.func148,Tryz.ntmps148
 go_wp2_with fail
 refine (fA (ok:=ok) g a nm w HG.out.F9 HZ.out.vl HZ.out.vz).mono ?_;rintro e w2 ⟨u,rfl,hvv,hb2⟩;generalize (aM g.F9 nm).isSome=is at *;generalize (aM g.F9 nm).getD eY=x at *;have HV:=aa hvv;have HB2:=aa hb2;obtain ⟨tv,sv,rfl,htr,hsr⟩:=hvv;obtain ⟨tp,tc,rfl,_,_⟩:=htr.cap;obtain ⟨sp,sc,rfl,_,_⟩:=hsr.cap;clear htr hsr hb2 g0 g1 g2 g3 g4 g5 g6 g7 g8 hcc;have hA:=ae w2 (.cells #[.string x.name,.int .u64 x.id,.bool x.hidden,.bool x.ro,.slice tp x.tags.length tc,.slice sp x.Gf.length sc] 55);have HB3:=aa (HB2.out.trans (hA.mono HB2.out.size));have HV3:=aa (aN.moves.mv (Mv.of hA) HV.out);have hBx:=heap_alloc_new w2 (.cells #[.string x.name,.int .u64 x.id,.bool x.hidden,.bool x.ro,.slice tp x.tags.length tc,.slice sp x.Gf.length sc] 55)
 have xL:∀ (i:Nat) (z:Value),[.string x.name,.int .u64 x.id,.bool x.hidden,.bool x.ro,.slice tp x.tags.length tc,.slice sp x.Gf.length sc][i]?=some z→(w2.alloc (.cells #[.string x.name,.int .u64 x.id,.bool x.hidden,.bool x.ro,.slice tp x.tags.length tc,.slice sp x.Gf.length sc] 55)).cell? ⟨w2.heap.size,i,none⟩=some z:=fun i z hz=>by
  simp only [World.cell?,hBx];simpa using hz
 have x0:=xL 0 _ rfl;have x1:=xL 1 _ rfl;have x2:=xL 2 _ rfl;have x3:=xL 3 _ rfl;have x4:=xL 4 _ rfl;have x5:=xL 5 _ rfl;clear hA hBx xL
 go_wp2_with fail
 refine (yz (ok:=fun b=>ok b∨w.heap.size≤b) x _ _ HV3.out (by omega)).mono ?_;rintro e w4 ⟨rfl,hb4⟩;have HB4:=aa (HB3.out.trans (hb4.mono HB3.out.size));clear hb4 x0 x1 x2 x3 x4 x5;go_wp2;go_ret;exact ⟨bB HL.out.symm,HB4.out⟩
end Go.Proofs.YtjdfihglehfelaaGreatDoor
