/- Lemmas: ModO, ModP, ModQ, ModR. -/
import Derived.Test.YtaagglbgohjldaaGreatDoorQv17
set_option maxRecDepth 100000
set_option maxHeartbeats 32000000
set_option linter.all false
namespace Go.Proofs.YtaagglbgohjldaaGreatDoor
open Go.Proofs.Tryz
open Go.RowKit Go.Maps Go.Shelf
variable {α:Type}{ok:Nat->Prop}
theorem ck.take {V:jx α}{sz:Nat}{w:World}{p:Option Addr}{cap:Nat}{l:List α}(h:ck V sz ok w [.slice p l.length cap] l)(k:Nat)(hk:k<=l.length):ck V sz ok w [.slice p k cap] (l.take k):=by
 obtain ⟨p',c',e,h1,h2,h3⟩:=h;injection e with e;injection e with e1 _ e3;subst e1;subst e3;have hl:(l.take k).length=k:=by simp;omega
 refine ⟨p,cap,by rw [hl],TcC,h2,fun h0=>?_⟩;obtain ⟨b,off,hp,hb,ho,hc⟩:=h3 TcC;exact ⟨b,off,hp,hb,ho,fun i x hx=>hc i x (by
  rw [xF] at hx;split at hx
  ·exact hx
  cases hx)⟩
def dG (d x:az):Bool:=x.name.toList == d.name.toList||x.id == d.id
theorem Tec {p:Prop}(h:p:=by rw [HM.o];rfl):p:=h
theorem vR (x d:az)(u:List Value)(Bd:Nat)(w:World)(hu:aO ok w u x)(h0:w.cell? Bd=some (.string d.name))(h1:w.cell? (Tac Bd 1)=some (.int .u64 d.id))(hb:Bd<w.heap.size) :
  Calls prog 139 #[.agg u.toArray,.pointer (some Bd)] w fun e w'=>e=.returned (.bool (dG d x))/\Below w.heap.size w w':=by
 obtain ⟨tv,rfl,ew⟩:=hu;obtain ⟨tp,tc,rfl,_,_⟩:=ew.cap;clear ew;have hA:=ae w (.cells (Tah x tp tc) 51);have HA:=aa hA;have HM:Hid (dG d x=_):=aa (dG.eq_1 d x);have d0:=(hA.cell (p:=Bd) hb).trans h0;have d1:=(hA.cell (p:=⟨Bd,1,none⟩) hb).trans h1;clear hA h0 h1;cases hn:x.name.toList == d.name.toList with
 | true =>
  rw [hn] at HM;go_enter func139,ntmps139;go_wp2;go_ret;exact ⟨ah Tec,HA.o⟩
 | false =>
  rw [hn] at HM;go_enter func139,ntmps139;go_wp2;go_ret;exact ⟨ah Tec,HA.o⟩
theorem Tdz {p:Prop}(h:p:=by rw [cE.o];rfl):p:=h
theorem TbU {p:Prop}(h:p:=by
 ·obtain rfl:k=l.length:=by omega
  rw [cI] at cE;go_wp2;go_ret;exact ⟨⟨-1,rfl,Tdz⟩,hB⟩):p:=h
theorem Teh {p:Prop}(h:p:=by rw [take_snoc' l k x hx,rj,cE.o];simp):p:=h
theorem sF (l:List az)(d:az)(p:Option Addr)(cap Bd:Nat)(w:World)(hr:ck aO 7 ok w [.slice p l.length cap] l)(hl:l.length<=1000000)(h0:w.cell? Bd=some (.string d.name))(h1:w.cell? (Tac Bd 1)=some (.int .u64 d.id))(hb:Bd<w.heap.size) :
  Calls prog 175 #[.slice p l.length cap,.func (.func 139) #[] #[.pointer (some Bd)]] w
   fun e w'=>(∃ r:Int,e=.returned (.int .i64 r)/\decide (0<=r)=l.any (dG d))/\Below w.heap.size w w':=by
 obtain ⟨p',c',e,hc1,hc2⟩:=hr.cap;injection e with e1 _ e3;subst e1;subst e3;have HR:=aa hr;clear hr;have H0:=aa h0;clear h0;have H1:=aa h1;clear h1;go_enter func175,ntmps175;go_wp2
 go_loopw [8,5] (fun i _ wr=>∃ k:Nat,k<=l.length/\i=.int .i64 k/\Below w.heap.size w wr/\(l.take k).any (dG d)=false) (fun i _ _=>l.length - (intOf i).toNat)
 exact ⟨0,cg _,rfl,bj _ _,rfl⟩;obtain ⟨k,hk,rfl,hB,hall⟩:=hrel;have cE:=aa hall;clear hall;by_cases hlt:k<l.length
 ·obtain ⟨x,hx⟩:=aj l k hlt;obtain ⟨b,off,us,hbo,gR,cX,ez,eE,hcv⟩:=HR.o.elem hx;subst hbo;have HV:=aa eE;obtain ⟨tv,rfl,ew⟩:=eE;obtain ⟨tp,tc,rfl,_,_⟩:=ew.cap;clear ew;have cT:wr.heap[b]?=w.heap[b]?:=hB.block b cX;obtain ⟨q0,q1,q2,q3,q4,q5,q6⟩:=OD cT hcv;have ap1:Hid ((l.take (k+1)).any (dG d)=dG d x):=aa Teh;have AE:Hid (dG d x=true->l.any (dG d)=true):=aa fun h=>List.any_eq_true.2 ⟨x,ct hx,h⟩;clear hcv ez cT hx cE;have mA:=hB.size
  go_wp2_with fail;refine (vR (ok:=ok) x d _ Bd wr (aO.moves.mv (Mv.of hB) HV.o) ((hB.cell hb).trans H0.o) ((hB.cell hb).trans H1.o) TcC).mono ?_;rintro e w3 ⟨rfl,hb3⟩;have cJ:=aa (hB.trans (hb3.mono hB.size));clear hb3 q0;cases hs:dG d x with
  | true =>
   have E3:=aa (AE.o hs);clear hs;go_wp2;go_ret;exact ⟨⟨k,rfl,by rw [E3.o];simp⟩,cJ.o⟩
  | false =>
   have E3:=aa (ap1.o.trans hs);clear hs;go_wp2;go_roundw;exact ⟨k+1,TcC,TcG,cJ.o,E3.o⟩;simp [intOf];omega
 exact TbU
theorem Tcx {p:Prop}(h:p:=by
 have HR:=aa hr2;clear hr2;have HB:=aa hb2;clear hb2;go_wp2;go_ret;exact ⟨ah HR.o,HB.o⟩):p:=h
theorem TbF {p:Prop}(h:p:=by
 rintro e w2 ⟨⟨r,rfl,hr2⟩,hb2⟩;exact Tcx):p:=h
theorem sN (l:List az)(d:az)(p:Option Addr)(cap Bd:Nat)(w:World)(hr:ck aO 7 ok w [.slice p l.length cap] l)(hl:l.length<=1000000)(h0:w.cell? Bd=some (.string d.name))(h1:w.cell? (Tac Bd 1)=some (.int .u64 d.id))(hb:Bd<w.heap.size) :
  Calls prog 138 #[.slice p l.length cap,.func (.func 139) #[] #[.pointer (some Bd)]] w
   fun e w'=>e=.returned (.bool (l.any (dG d)))/\Below w.heap.size w w':=by
 go_enter func138,ntmps138
 go_wp2_with fail;refine (sF (ok:=ok) l d p cap Bd w hr hl h0 h1 hb).mono ?_;exact TbF
def fC (d x:ay):Bool:=x.name.toList == d.name.toList||x.id == d.id
theorem wh (x d:ay)(u:List Value)(Bd:Nat)(w:World)(hu:aN ok w u x)(h0:w.cell? Bd=some (.string d.name))(h1:w.cell? (Tac Bd 1)=some (.int .u64 d.id))(hb:Bd<w.heap.size) :
  Calls prog 141 #[.agg u.toArray,.pointer (some Bd)] w fun e w'=>e=.returned (.bool (fC d x))/\Below w.heap.size w w':=by
 obtain ⟨tv,sv,rfl,ew,fL⟩:=hu;obtain ⟨tp,tc,rfl,_,_⟩:=ew.cap;obtain ⟨sp,sc,rfl,_,_⟩:=fL.cap;clear ew fL;have hA:=ae w (.cells (Taf x tp tc sp sc) 68);have HA:=aa hA;have HM:Hid (fC d x=_):=aa (fC.eq_1 d x);have d0:=(hA.cell (p:=Bd) hb).trans h0;have d1:=(hA.cell (p:=⟨Bd,1,none⟩) hb).trans h1;clear hA h0 h1;cases hn:x.name.toList == d.name.toList with
 | true =>
  rw [hn] at HM;go_enter func141,ntmps141;go_wp2;go_ret;exact ⟨ah Tec,HA.o⟩
 | false =>
  rw [hn] at HM;go_enter func141,ntmps141;go_wp2;go_ret;exact ⟨ah Tec,HA.o⟩
theorem uK (l:List ay)(d:ay)(p:Option Addr)(cap Bd:Nat)(w:World)(hr:ck aN 6 ok w [.slice p l.length cap] l)(hl:l.length<=1000000)(h0:w.cell? Bd=some (.string d.name))(h1:w.cell? (Tac Bd 1)=some (.int .u64 d.id))(hb:Bd<w.heap.size) :
  Calls prog 176 #[.slice p l.length cap,.func (.func 141) #[] #[.pointer (some Bd)]] w
   fun e w'=>(∃ r:Int,e=.returned (.int .i64 r)/\decide (0<=r)=l.any (fC d))/\Below w.heap.size w w':=by
 obtain ⟨p',c',e,hc1,hc2⟩:=hr.cap;injection e with e1 _ e3;subst e1;subst e3;have HR:=aa hr;clear hr;have H0:=aa h0;clear h0;have H1:=aa h1;clear h1;go_enter func176,ntmps176;go_wp2
 go_loopw [8,5] (fun i _ wr=>∃ k:Nat,k<=l.length/\i=.int .i64 k/\Below w.heap.size w wr/\(l.take k).any (fC d)=false) (fun i _ _=>l.length - (intOf i).toNat)
 exact ⟨0,cg _,rfl,bj _ _,rfl⟩;obtain ⟨k,hk,rfl,hB,hall⟩:=hrel;have cE:=aa hall;clear hall;by_cases hlt:k<l.length
 ·obtain ⟨x,hx⟩:=aj l k hlt;obtain ⟨b,off,us,hbo,gR,cX,ez,eE,hcv⟩:=HR.o.elem hx;subst hbo;have HV:=aa eE;obtain ⟨tv,sv,rfl,ew,fL⟩:=eE;obtain ⟨tp,tc,rfl,_,_⟩:=ew.cap;obtain ⟨sp,sc,rfl,_,_⟩:=fL.cap;clear ew fL;have cT:wr.heap[b]?=w.heap[b]?:=hB.block b cX;obtain ⟨q0,q1,q2,q3,q4,q5⟩:=NG cT hcv;have ap1:Hid ((l.take (k+1)).any (fC d)=fC d x):=aa Teh;have AE:Hid (fC d x=true->l.any (fC d)=true):=aa fun h=>List.any_eq_true.2 ⟨x,ct hx,h⟩;clear hcv ez cT hx cE;have mA:=hB.size
  go_wp2_with fail;refine (wh (ok:=ok) x d _ Bd wr (aN.moves.mv (Mv.of hB) HV.o) ((hB.cell hb).trans H0.o) ((hB.cell hb).trans H1.o) TcC).mono ?_;rintro e w3 ⟨rfl,hb3⟩;have cJ:=aa (hB.trans (hb3.mono hB.size));clear hb3 q0;cases hs:fC d x with
  | true =>
   have E3:=aa (AE.o hs);clear hs;go_wp2;go_ret;exact ⟨⟨k,rfl,by rw [E3.o];simp⟩,cJ.o⟩
  | false =>
   have E3:=aa (ap1.o.trans hs);clear hs;go_wp2;go_roundw;exact ⟨k+1,TcC,TcG,cJ.o,E3.o⟩;simp [intOf];omega
 exact TbU
theorem vH (l:List ay)(d:ay)(p:Option Addr)(cap Bd:Nat)(w:World)(hr:ck aN 6 ok w [.slice p l.length cap] l)(hl:l.length<=1000000)(h0:w.cell? Bd=some (.string d.name))(h1:w.cell? (Tac Bd 1)=some (.int .u64 d.id))(hb:Bd<w.heap.size) :
  Calls prog 140 #[.slice p l.length cap,.func (.func 141) #[] #[.pointer (some Bd)]] w
   fun e w'=>e=.returned (.bool (l.any (fC d)))/\Below w.heap.size w w':=by
 go_enter func140,ntmps140
 go_wp2_with fail;refine (uK (ok:=ok) l d p cap Bd w hr hl h0 h1 hb).mono ?_;exact TbF
def gZ {α:Type}(nm:α->ByteArray)(f:Nat->α->Int):Nat->List α->ByteArray × Int
 | _,[]=>(⟨#[]⟩,0)
 | i,x :: r=>if f i x=0 then gZ nm f (i+1) r else (nm x,f i x)
theorem uj (nm:α->ByteArray)(f:Nat->α->Int){l:List α}{k:Nat}{x:α}(h:l[k]?=some x):gZ nm f k (l.drop k)=if f k x=0 then gZ nm f (k+1) (l.drop (k+1)) else (nm x,f k x):=by
 rw [drop_at h];rfl
def jQ (g:af)(d:az):Prop:=0<=d.first/\d.first<=65536/\0<=d.Gc/\d.Gc<=4096/\d.first+d.Gc*g.Gd<=65536
instance (g:af) (d:az):Decidable (jQ g d):=by unfold jQ;infer_instance
def pg (g:af)(i:Nat)(d:az):Int:=if jo d.name=false then 10 else if (g.Gb.take i).any (dG d)=true then 9 else if ¬ jQ g d then 1 else eP d.tags
def dw (g:af):ByteArray × Int:=gZ az.name (pg g) 0 g.Gb
theorem Tey {p:Prop}(h:p:=by rw [HE.o,kj.o,bh ht]):p:=h
theorem Tem {p:Prop}(h:p:=by rw [HE.o,aw (by rw [kj.o,ht])]):p:=h
theorem Tc3 {p:Prop}(h:p:=by rw [HE.o,kj.o];rfl):p:=h
theorem TdX {p:Prop}(h:p:=by simp [World.cell?,sX.o]):p:=h
theorem A7 (g:af)(a:bN)(bc:Nat)(w:World)(kB:gY w bc g a)(hg:dN ok w g a)(hz:UT g)(hx:1<=g.Gd/\g.Gd<=1024)(hS:AW w) :
  Calls prog 102 #[.pointer (some bc)] w (Aw (dw g) w):=by
 have jt:=kB.lt;obtain ⟨sm,hblk,hmap⟩:=kB;have nw:Hid (bX w bc sm g a):=aa hblk;clear hblk hmap;obtain ⟨g0,g1,g2,g3,g4,g5,g6,g7,g8⟩:=bX.cells nw.o;have HG:=aa hg.Gb;have HZ:=aa hz;have HX:=aa hx;have HS:=aa hS;have CD:=hz.dl;obtain ⟨vp,vc,sT,ao8,ap0⟩:=hg.Gb.cap;clear hg hz hx hS;injection sT with e1 e2 e3;obtain ⟨ID,gtc,gdp,G3,G4,Ge,Hb,Hc⟩:=a;dsimp only at e1 e2 e3 g0 g1 g2 g3 g4 g5 g6 g7 g8;subst e1;subst e3;clear e2;go_enter func102,ntmps102;go_wp2;clear g0 g1 g2 g3 g4 g5 g6 g7 g8
 go_loopw [14,4,5,6,7] (fun i _ _ _ _ wr=>∃ k:Nat,k<=g.Gb.length/\i=.int .i64 k/\Below w.heap.size w wr/\dw g=gZ az.name (pg g) k (g.Gb.drop k)) (fun i _ _ _ _ _=>g.Gb.length - (intOf i).toNat)
 exact ⟨0,cg _,rfl,bj _ _,rfl⟩;obtain ⟨k,hk,rfl,hB,he⟩:=hrel;have HE:=aa he;clear he;by_cases hlt:k<g.Gb.length
 ·obtain ⟨d,hd⟩:=aj g.Gb k hlt;rw [uj _ _ hd] at HE;obtain ⟨b,off,us,rfl,gR,cX,ez,eE,hcv⟩:=HG.o.elem hd;have Ni:=ct hd;have Pa:=HZ.o.disk d Ni;have aq3:=Pa.1;have Pb:=aa Pa.2;obtain ⟨tv,rfl,ew⟩:=eE;obtain ⟨tp,tc,rfl,_,_⟩:=ew.cap;have Hx:=aa ew;have cT:wr.heap[b]?=w.heap[b]?:=hB.block b cX;obtain ⟨q0,q1,q2,q3,q4,q5,q6⟩:=OD cT hcv;clear hcv ez cT ew Pa Ni hd;have sX:=aa (b9 wr (.cells (Tah d tp tc) 51));have hA:=ae wr (.cells (Tah d tp tc) 51);have cU:=aa (hB.trans (hA.mono hB.size));have at7:=((cU.o.block bc jt).trans nw.o);obtain ⟨g0,g1,g2,g3,g4,g5,g6,g7,g8⟩:=bX.cells (sm:=sm) at7;clear hA at7
  go_wp2_with fail;clear q0 q1 q2 q3 q4 q5 q6 g0 g1 g2 g3 g4 g5 g6 g7 g8;generalize hW1:World.alloc wr _=W1 at *;generalize hBd:wr.heap.size=Bd at *;clear hW1 hBd;have hlk:(g.Gb.take k).length=k:=by simp;omega
  have Fl:=sN (ok:=ok) (g.Gb.take k) d (some ⟨b,off,none⟩) G3 Bd W1 (by rw [hlk];exact ck.take ((ck.moves aO.moves).mv (Mv.of cU.o) HG.o) k hk) TcC TdX TdX (aq sX.o);rw [hlk] at Fl;refine Fl.mono ?_;clear Fl hlk hB;rintro e w2 ⟨rfl,hb2⟩;have cm:=Zbl cU hb2;have B8:=Zbk hb2 sX;clear hb2 cU sX;have kj:Hid (pg g k d=_):=aa (pg.eq_1 g k d);generalize (g.Gb.take k).any (dG d)=tw at *;have n0:=cr B8.o 0 _ rfl;go_wp2_with fail;refine (fT d.name w2 aq3 (HS.o.below cm.o)).mono ?_;rintro e w3 ⟨rfl,hb3⟩;have cJ:=Zbl cm hb3;have n9:=Zbk hb3 B8;clear hb3 cm B8 n0;have n0:=cr n9.o 0 _ rfl
  cases XV:jo d.name with
  | false =>
   rw [aw XV] at kj;have HR:Hid (dw g=(d.name,10)):=aa Tc3;clear XV;go_wp2;go_ret2;exact ⟨TcK,cJ.o⟩
  | true =>
   rw [bh (by rw [XV];decide)] at kj;clear XV;cases tw with
   | true =>
    rw [aw rfl] at kj;have HR:Hid (dw g=(d.name,9)):=aa Tc3;go_wp2;go_ret2;exact ⟨TcK,cJ.o⟩
   | false =>
    rw [bh TcF] at kj;have n2:=cr n9.o 2 _ rfl;have n3:=cr n9.o 3 _ rfl;have n6:=cr n9.o 6 _ rfl;obtain ⟨-,-,-,g3,-,-,-,-,-⟩:=bX.cells (sm:=sm) ((cJ.o.block bc jt).trans nw.o);have hx1:=HX.o.1;have hx2:=HX.o.2;by_cases hr:jQ g d
    ·rw [bh (fun h=>h hr)] at kj;obtain ⟨r1,r2,r3,r4,r5⟩:=hr;have m1:0<=d.Gc*g.Gd:=oA r3 TcC;have w1:IntKind.i64.wrap (d.Gc*g.Gd)=d.Gc*g.Gd:=dy _ TcC;have w2:IntKind.i64.wrap (d.first+d.Gc*g.Gd)=d.first+d.Gc*g.Gd:=dy _ TcC;have k1:decide (d.first<0)=false:=cN TcC;have k2:decide (65536<d.first)=false:=cN TcC;have k3:decide (d.Gc<0)=false:=cN TcC;have k4:decide (4096<d.Gc)=false:=cN TcC;have k5:decide (65536<d.first+d.Gc*g.Gd)=false:=cN TcC;go_upto_region 9 with (fail);go_quiet (fail);clear k1 k2 k3 k4 k5 w1 w2 m1 r1 r2 r3 r4 r5 n2 n3 g3;have hB4:=fun n=>aT cJ.o n;have Rq:∀ n,(w3.drewN n).heap[Bd]?=_:=fun n=>n9.o;have n0':∀ n,(w3.drewN n).cell? Bd=some (.string d.name):=fun n=>n0
     go_wp2_with fail;clear cJ n9 n0 n6;generalize hW4:w3.drewN _=W4 at *;have eI:Hid (Below w.heap.size w W4):=aa (hW4 ▸ hB4 _);have aw8:=aa (hW4 ▸ Rq _);clear hB4 Rq n0' hW4;refine (kZ (ok:=ok) d.tags _ W4 ((ck.moves aF.moves).mv (Mv.of eI.o) Hx.o) Pb.o.1 Pb.o.2).mono ?_;rintro e w5 ⟨rfl,hb5⟩;have eK:=Zbl eI hb5;have VH:=Zbk hb5 aw8;clear hb5 eI aw8;have n0:=cr VH.o 0 _ rfl;by_cases ht:eP d.tags=0
     ·have Nh:(eP d.tags != 0)=false:=by rw [ht];rfl
      have HR:Hid (dw g=gZ az.name (pg g) (k+1) (g.Gb.drop (k+1))):=aa Tem;clear ht;go_wp2;go_roundw;exact ⟨k+1,TcC,TcG,eK.o,HR.o⟩;simp [intOf];omega
     have Nh:(eP d.tags != 0)=true:=by simpa using ht
     have HR:Hid (dw g=(d.name,eP d.tags)):=aa Tey;clear ht;go_wp2;go_ret2;exact ⟨TcK,eK.o⟩
    rw [aw hr] at kj;have HR:Hid (dw g=(d.name,1)):=aa Tc3;by_cases r1:d.first<0
    ·have k1:decide (d.first<0)=true:=eA r1;go_upto_region 9 with (fail);go_quiet (fail);go_wp2;go_ret2;exact ⟨TcK,aT cJ.o _⟩
    have k1:decide (d.first<0)=false:=cN r1;by_cases r2:65536<d.first
    ·have k2:decide (65536<d.first)=true:=eA r2;go_upto_region 9 with (fail);go_quiet (fail);go_wp2;go_ret2;exact ⟨TcK,aT cJ.o _⟩
    have k2:decide (65536<d.first)=false:=cN r2;by_cases r3:d.Gc<0
    ·have k3:decide (d.Gc<0)=true:=eA r3;go_upto_region 9 with (fail);go_quiet (fail);go_wp2;go_ret2;exact ⟨TcK,aT cJ.o _⟩
    have k3:decide (d.Gc<0)=false:=cN r3;by_cases r4:4096<d.Gc
    ·have k4:decide (4096<d.Gc)=true:=eA r4;go_upto_region 9 with (fail);go_quiet (fail);go_wp2;go_ret2;exact ⟨TcK,aT cJ.o _⟩
    have k4:decide (4096<d.Gc)=false:=cN r4;have m1:0<=d.Gc*g.Gd:=oA TcC TcC;have m2:d.Gc*g.Gd<=4096*1024:=tW TcC TcC TcC TcC;have w1:IntKind.i64.wrap (d.Gc*g.Gd)=d.Gc*g.Gd:=dy _ TcC;have w2:IntKind.i64.wrap (d.first+d.Gc*g.Gd)=d.first+d.Gc*g.Gd:=dy _ TcC;have k5:decide (65536<d.first+d.Gc*g.Gd)=true:=eA (by unfold jQ at hr;omega);clear hr m1 m2;go_upto_region 9 with (fail);go_quiet (fail);go_wp2;go_ret2;exact ⟨TcK,aT cJ.o _⟩
 obtain rfl:k=g.Gb.length:=by omega
 have HR:Hid (dw g=(⟨#[]⟩,0)):=aa TdK;go_wp2;go_ret2;exact ⟨TcK,hB⟩
def nE (v:ay):Bool:=if v.hidden then zH v.name else jo v.name
def yH (g:af)(i:Nat)(v:ay):Int:=if nE v=false then 10 else if (g.F9.take i).any (fC v)=true then 9 else if ¬ (1<=v.Gf.length/\v.Gf.length<=64) then 4 else eP v.tags
def dJ (g:af):ByteArray × Int:=gZ ay.name (yH g) 0 g.F9
theorem wQ (g:af)(a:bN)(bc:Nat)(w:World)(kB:gY w bc g a)(hg:dN ok w g a)(hz:UT g)(hS:AW w) :
  Calls prog 103 #[.pointer (some bc)] w (Aw (dJ g) w):=by
 have jt:=kB.lt;obtain ⟨sm,hblk,hmap⟩:=kB;have nw:Hid (bX w bc sm g a):=aa hblk;clear hblk hmap;obtain ⟨g0,g1,g2,g3,g4,g5,g6,g7,g8⟩:=bX.cells nw.o;have HG:=aa hg.F9;have HZ:=aa hz;have HS:=aa hS;have CD:=hz.vl;obtain ⟨vp,vc,sT,ao8,ap0⟩:=hg.F9.cap;clear hg hz hS;injection sT with e1 e2 e3;obtain ⟨ID,gtc,gdp,G3,G4,Ge,Hb,Hc⟩:=a;dsimp only at e1 e2 e3 g0 g1 g2 g3 g4 g5 g6 g7 g8;subst e1;subst e3;clear e2;go_enter func103,ntmps103;go_wp2;clear g0 g1 g2 g3 g4 g5 g6 g7 g8
 go_loopw [14,4,5,6,7] (fun i _ _ _ _ wr=>∃ k:Nat,k<=g.F9.length/\i=.int .i64 k/\Below w.heap.size w wr/\dJ g=gZ ay.name (yH g) k (g.F9.drop k)) (fun i _ _ _ _ _=>g.F9.length - (intOf i).toNat)
 exact ⟨0,cg _,rfl,bj _ _,rfl⟩;obtain ⟨k,hk,rfl,hB,he⟩:=hrel;have HE:=aa he;clear he;by_cases hlt:k<g.F9.length
 ·obtain ⟨v,hd⟩:=aj g.F9 k hlt;rw [uj _ _ hd] at HE;obtain ⟨b,off,us,rfl,gR,cX,ez,eE,hcv⟩:=HG.o.elem hd;have Ni:=ct hd;have Pa:=HZ.o.vol v Ni;have aq3:=Pa.1;have Pb:=aa Pa.2;obtain ⟨tv,sv,rfl,ew,fL⟩:=eE;obtain ⟨tp,tc,rfl,_,_⟩:=ew.cap;obtain ⟨sp,sc,rfl,hs1,hs2⟩:=fL.cap;have Hx:=aa ew;have cT:wr.heap[b]?=w.heap[b]?:=hB.block b cX;obtain ⟨q0,q1,q2,q3,q4,q5⟩:=NG cT hcv;clear hcv ez cT ew fL Pa Ni hd;have sX:=aa (b9 wr (.cells (Taf v tp tc sp sc) 68));have hA:=ae wr (.cells (Taf v tp tc sp sc) 68);have cU:=aa (hB.trans (hA.mono hB.size));have at7:=((cU.o.block bc jt).trans nw.o);obtain ⟨g0,g1,g2,g3,g4,g5,g6,g7,g8⟩:=bX.cells (sm:=sm) at7;clear hA at7
  go_wp2_with fail;clear q0 q1 q2 q3 q4 q5 g0 g1 g2 g3 g4 g5 g6 g7 g8;generalize hW1:World.alloc wr _=W1 at *;generalize hBd:wr.heap.size=Bd at *;clear hW1 hBd;have hlk:(g.F9.take k).length=k:=by simp;omega
  have Fl:=vH (ok:=ok) (g.F9.take k) v (some ⟨b,off,none⟩) Ge Bd W1 (by rw [hlk];exact ck.take ((ck.moves aN.moves).mv (Mv.of cU.o) HG.o) k hk) TcC TdX TdX (aq sX.o);rw [hlk] at Fl;refine Fl.mono ?_;clear Fl hlk hB;rintro e w2 ⟨rfl,hb2⟩;have cm:=Zbl cU hb2;have B8:=Zbk hb2 sX;clear hb2 cU sX;have kj:Hid (yH g k v=_):=aa (yH.eq_1 g k v);generalize (g.F9.take k).any (fC v)=tw at *;have n0:=cr B8.o 0 _ rfl;have Mr:Hid (nE v=_):=aa (nE.eq_1 v);have HH:Hid ((∀ b,v.hidden=b->w2.cell? (Tac Bd 2)=some (.bool b))):=aa (by rintro b rfl;simp [World.cell?,B8.o]);cases N7:v.hidden with
  | true =>
   have n2:=HH.o _ N7;rw [N7,aw rfl] at Mr;go_wp2_with fail;refine (qO v.name w2 aq3 (HS.o.below cm.o)).mono ?_;rintro e w3 ⟨rfl,hb3⟩;have cJ:=Zbl cm hb3;have n9:=Zbk hb3 B8;clear hb3 cm B8 n0;have n0:=cr n9.o 0 _ rfl;have n2':w3.cell? (Tac Bd 2)=some (.bool true):=by simp [World.cell?,n9.o,N7]
   rw [<- Mr.o];clear N7 n2;generalize nE v=nm at *;cases nm with
   | false =>
    rw [aw rfl] at kj;have HR:Hid (dJ g=(v.name,10)):=aa Tc3;go_wp2;go_ret2;exact ⟨TcK,cJ.o⟩
   | true =>
    rw [bh TcF] at kj;cases tw with
    | true =>
     rw [aw rfl] at kj;have HR:Hid (dJ g=(v.name,9)):=aa Tc3;go_wp2;go_ret2;exact ⟨TcK,cJ.o⟩
    | false =>
     rw [bh TcF] at kj;have n5:=cr n9.o 5 _ rfl;have n4:=cr n9.o 4 _ rfl;by_cases hr:1<=v.Gf.length/\v.Gf.length<=64
     ·rw [bh (fun h=>h hr)] at kj;have k1:decide ((v.Gf.length:Int)<1)=false:=cN TcC;have k2:decide ((64:Int)<(v.Gf.length:Int))=false:=cN TcC;clear hr;go_wp2_with fail;refine (kZ (ok:=ok) v.tags _ w3 ((ck.moves aF.moves).mv (Mv.of cJ.o) Hx.o) Pb.o.1 Pb.o.2).mono ?_;rintro e w5 ⟨rfl,hb5⟩;have eK:=Zbl cJ hb5;have n0':w5.cell? Bd=some (.string v.name):=by simp [World.cell?,(hb5.block _ (aq n9.o)).trans n9.o]
      clear hb5 cJ n9 n0 n2' n4 n5 k1 k2;by_cases ht:eP v.tags=0
      ·have Nh:(eP v.tags != 0)=false:=by rw [ht];rfl
       have HR:Hid (dJ g=gZ ay.name (yH g) (k+1) (g.F9.drop (k+1))):=aa Tem;clear ht;go_wp2;go_roundw;exact ⟨k+1,TcC,TcG,eK.o,HR.o⟩;simp [intOf];omega
      have Nh:(eP v.tags != 0)=true:=by simpa using ht
      have HR:Hid (dJ g=(v.name,eP v.tags)):=aa Tey;clear ht;go_wp2;go_ret2;exact ⟨TcK,eK.o⟩
     rw [aw hr] at kj;have HR:Hid (dJ g=(v.name,4)):=aa Tc3;by_cases r1:v.Gf.length<1
     ·have k1:decide ((v.Gf.length:Int)<1)=true:=eA TcC;go_wp2;go_ret2;exact ⟨TcK,cJ.o⟩
     have k1:decide ((v.Gf.length:Int)<1)=false:=cN TcC;have k2:decide ((64:Int)<(v.Gf.length:Int))=true:=eA TcC;go_wp2;go_ret2;exact ⟨TcK,cJ.o⟩
  | false =>
   have n2:=HH.o _ N7;rw [N7,bh TcF] at Mr;go_wp2_with fail;refine (fT v.name w2 aq3 (HS.o.below cm.o)).mono ?_;rintro e w3 ⟨rfl,hb3⟩;have cJ:=Zbl cm hb3;have n9:=Zbk hb3 B8;clear hb3 cm B8 n0;have n0:=cr n9.o 0 _ rfl;have n2':w3.cell? (Tac Bd 2)=some (.bool false):=by simp [World.cell?,n9.o,N7]
   rw [<- Mr.o];clear N7 n2;generalize nE v=nm at *;cases nm with
   | false =>
    rw [aw rfl] at kj;have HR:Hid (dJ g=(v.name,10)):=aa Tc3;go_wp2;go_ret2;exact ⟨TcK,cJ.o⟩
   | true =>
    rw [bh TcF] at kj;cases tw with
    | true =>
     rw [aw rfl] at kj;have HR:Hid (dJ g=(v.name,9)):=aa Tc3;go_wp2;go_ret2;exact ⟨TcK,cJ.o⟩
    | false =>
     rw [bh TcF] at kj;have n5:=cr n9.o 5 _ rfl;have n4:=cr n9.o 4 _ rfl;by_cases hr:1<=v.Gf.length/\v.Gf.length<=64
     ·rw [bh (fun h=>h hr)] at kj;have k1:decide ((v.Gf.length:Int)<1)=false:=cN TcC;have k2:decide ((64:Int)<(v.Gf.length:Int))=false:=cN TcC;clear hr;go_wp2_with fail;refine (kZ (ok:=ok) v.tags _ w3 ((ck.moves aF.moves).mv (Mv.of cJ.o) Hx.o) Pb.o.1 Pb.o.2).mono ?_;rintro e w5 ⟨rfl,hb5⟩;have eK:=Zbl cJ hb5;have n0':w5.cell? Bd=some (.string v.name):=by simp [World.cell?,(hb5.block _ (aq n9.o)).trans n9.o]
      clear hb5 cJ n9 n0 n2' n4 n5 k1 k2;by_cases ht:eP v.tags=0
      ·have Nh:(eP v.tags != 0)=false:=by rw [ht];rfl
       have HR:Hid (dJ g=gZ ay.name (yH g) (k+1) (g.F9.drop (k+1))):=aa Tem;clear ht;go_wp2;go_roundw;exact ⟨k+1,TcC,TcG,eK.o,HR.o⟩;simp [intOf];omega
      have Nh:(eP v.tags != 0)=true:=by simpa using ht
      have HR:Hid (dJ g=(v.name,eP v.tags)):=aa Tey;clear ht;go_wp2;go_ret2;exact ⟨TcK,eK.o⟩
     rw [aw hr] at kj;have HR:Hid (dJ g=(v.name,4)):=aa Tc3;by_cases r1:v.Gf.length<1
     ·have k1:decide ((v.Gf.length:Int)<1)=true:=eA TcC;go_wp2;go_ret2;exact ⟨TcK,cJ.o⟩
     have k1:decide ((v.Gf.length:Int)<1)=false:=cN TcC;have k2:decide ((64:Int)<(v.Gf.length:Int))=true:=eA TcC;go_wp2;go_ret2;exact ⟨TcK,cJ.o⟩
 obtain rfl:k=g.F9.length:=by omega
 have HR:Hid (dJ g=(⟨#[]⟩,0)):=aa TdK;go_wp2;go_ret2;exact ⟨TcK,hB⟩
def dO (g:af)(nm:ByteArray):Int:=C8 ((aM g.F9 nm).getD eY)
theorem Eh:qD eY:=⟨by simp [eY],by simp [eY],by simp [eY]⟩
theorem Dt {g:af}(hz:JT g)(nm:ByteArray):qD ((aM g.F9 nm).getD eY):=by
 cases h:aM g.F9 nm with
 | none=>exact Eh
 | some v=>exact hz.vz v (eV h)
theorem yC (g:af)(a:bN)(bc Bc:Nat)(nm:ByteArray)(w:World)(kB:gY w bc g a)(hcc:w.cell? Bc=some (.pointer (some bc)))(hg:dN ok w g a)(hz:JT g) :
  Calls prog 150 #[.string nm,.pointer (some Bc)] w fun e w'=>e=.returned (.int .i64 (dO g nm))/\Below w.heap.size w w':=by
 have jt:=kB.lt;obtain ⟨sm,hblk,_⟩:=kB;have nw:Hid (bX w bc sm g a):=aa hblk;clear hblk;obtain ⟨g0,g1,g2,g3,g4,g5,g6,g7,g8⟩:=bX.cells nw.o;have HG:=aa hg;clear hg;have HZ:=aa hz;clear hz;have hvz:=Dt HZ.o nm;have GF:=hvz.Gf;have HL:Hid (dO g nm=_):=aa (dO.eq_1 g nm);go_enter func150,ntmps150
 go_wp2_with fail;refine (fA (ok:=ok) g a nm w HG.o.F9 HZ.o.vl HZ.o.vz).mono ?_;rintro e w2 ⟨u,rfl,sA,hb2⟩;generalize (aM g.F9 nm).isSome=is at *;generalize (aM g.F9 nm).getD eY=x at *;have HV:=aa sA;have cm:=aa hb2;obtain ⟨tv,sv,rfl,ew,fL⟩:=sA;obtain ⟨tp,tc,rfl,_,_⟩:=ew.cap;obtain ⟨sp,sc,rfl,_,_⟩:=fL.cap;clear ew fL hb2 g0 g1 g2 g3 g4 g5 g6 g7 g8 hcc;have hA:=ae w2 (.cells (Taf x tp tc sp sc) 68);have cJ:=Zbl cm hA;have Ya:=aa (aN.moves.mv (Mv.of hA) HV.o);have hBx:=b9 w2 (.cells (Taf x tp tc sp sc) 68);have xL:=cr hBx;obtain ⟨x0,x1,x2,x3,x4,x5⟩:=sv6 xL;clear hA hBx xL;go_wp2_with fail;refine (yz (ok:=fun b=>ok b\/w.heap.size<=b) x _ _ Ya.o TcC).mono ?_;rintro e w4 ⟨rfl,hb4⟩;have eI:=Zbl cJ hb4;clear hb4 x0 x1 x2 x3 x4 x5;go_wp2;go_ret;exact ⟨cz HL.o.symm,eI.o⟩
end Go.Proofs.YtaagglbgohjldaaGreatDoor
