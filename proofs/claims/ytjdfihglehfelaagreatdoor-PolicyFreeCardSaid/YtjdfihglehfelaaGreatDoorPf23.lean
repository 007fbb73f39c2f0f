/- Lemmas: ModQ, ModR, ModS. -/
import Derived.Test.YtjdfihglehfelaaGreatDoorPf22
set_option maxRecDepth 100000
set_option maxHeartbeats 32000000
set_option linter.all false
namespace Go.Proofs.YtjdfihglehfelaaGreatDoor
open Go.Proofs.Tryz
open Go.RowKit Go.Maps Go.Shelf
def nE (v:ay):Bool:=if v.hidden then zH v.name else jo v.name
def yH (g:af)(i:Nat)(v:ay):Int:=if nE v=false then 10 else if (g.F9.take i).any (fC v)=true then 9 else if ¬ (1<=v.Gf.length/\v.Gf.length<=64) then 4 else eP v.tags
def dJ (g:af):ByteArray × Int:=gZ ay.name (yH g) 0 g.F9
theorem wQ {ok:Nat->Prop}(g:af)(a:bN)(bc:Nat)(w:World)(kB:gY w bc g a)(hg:dN ok w g a)(hz:UT g)(hS:AW w) :
  Calls prog 85 #[.pointer (some ⟨bc,0,none⟩)] w (gX (dJ g) w):=by
 have jt:=kB.lt;obtain ⟨sm,hblk,hmap⟩:=kB;have nw:Hid (bX w bc sm g a):=aa hblk;clear hblk hmap;obtain ⟨g0,g1,g2,g3,g4,g5,g6,g7,g8⟩:=bX.cells nw.o;have HG:=aa hg.F9;have HZ:=aa hz;have HS:=aa hS;have CD:=hz.vl;obtain ⟨vp,vc,sT,Js,Jt⟩:=hg.F9.cap;clear hg hz hS;injection sT with e1 e2 e3
 obtain ⟨ID,IH,II,G3,G4,Ge,Hb,Hc⟩:=a;dsimp only at e1 e2 e3 g0 g1 g2 g3 g4 g5 g6 g7 g8;subst e1;subst e3;clear e2;go_enter func85,ntmps85;go_wp2;clear g0 g1 g2 g3 g4 g5 g6 g7 g8
 go_loopw [14,4,5,6,7] (fun i _ _ _ _ wr=>∃ k:Nat,k<=g.F9.length/\i=.int .i64 k/\Below w.heap.size w wr/\dJ g=gZ ay.name (yH g) k (g.F9.drop k)) (fun i _ _ _ _ _=>g.F9.length - (intOf i).toNat)
 case atStart=>exact ⟨0,cg _,rfl,bj _ _,rfl⟩
 case round =>
  obtain ⟨k,hk,rfl,hB,he⟩:=hrel;have HE:=aa he;clear he
  by_cases hlt:k<g.F9.length
  ·obtain ⟨v,hd⟩:=aj g.F9 k hlt
   rw [uj _ _ hd] at HE;obtain ⟨b,off,us,rfl,gR,cX,ez,eE,hcv⟩:=HG.o.elem hd;have Ni:=ct hd;have Pa:=HZ.o.vol v Ni;have KH:=Pa.1;have Pb:=aa Pa.2;obtain ⟨tv,sv,rfl,ew,fL⟩:=eE;obtain ⟨tp,tc,rfl,_,_⟩:=ew.cap;obtain ⟨sp,sc,rfl,hs1,hs2⟩:=fL.cap;have Hx:=aa ew;have cT:wr.heap[b]?=w.heap[b]?:=hB.block b cX;obtain ⟨q0,q1,q2,q3,q4,q5⟩:=NG cT hcv;clear hcv ez cT ew fL Pa Ni hd;have sX:=aa (b9 wr (.cells #[.string v.name,.int .u64 v.id,.bool v.hidden,.bool v.ro,.slice tp v.tags.length tc,.slice sp v.Gf.length sc] 55));have hA:=ae wr (.cells #[.string v.name,.int .u64 v.id,.bool v.hidden,.bool v.ro,.slice tp v.tags.length tc,.slice sp v.Gf.length sc] 55);have cU:=aa (hB.trans (hA.mono hB.size));have LK:=((cU.o.block bc jt).trans nw.o);obtain ⟨g0,g1,g2,g3,g4,g5,g6,g7,g8⟩:=bX.cells (sm:=sm) LK;clear hA LK
   go_wp2_with fail
   clear q0 q1 q2 q3 q4 q5 g0 g1 g2 g3 g4 g5 g6 g7 g8;generalize hW1:World.alloc wr _=W1 at *;generalize J6:wr.heap.size=Bd at *;clear hW1 J6;have hlk:(g.F9.take k).length=k:=by simp;omega
   have Fl:=vH (ok:=ok) (g.F9.take k) v (some ⟨b,off,none⟩) Ge Bd W1 (by rw [hlk];exact ck.take ((ck.moves aN.moves).mv (Mv.of cU.o) HG.o) k hk) (by omega) (by simp [World.cell?,sX.o]) (by simp [World.cell?,sX.o]) (aq sX.o);rw [hlk] at Fl;refine Fl.mono ?_;clear Fl hlk hB;rintro e w2 ⟨rfl,hb2⟩;have cm:=aa (cU.o.trans (hb2.mono cU.o.size));have B8:=aa ((hb2.block _ (aq sX.o)).trans sX.o);clear hb2 cU sX;have kj:Hid (yH g k v=_):=aa (yH.eq_1 g k v);generalize (g.F9.take k).any (fC v)=tw at *;have n0:=cr B8.o 0 _ rfl
   have Mr:Hid (nE v=_):=aa (nE.eq_1 v);have HH:Hid ((∀ b,v.hidden=b->w2.cell? ⟨Bd,2,none⟩=some (.bool b))):=aa (by rintro b rfl;simp [World.cell?,B8.o]);cases N7:v.hidden with
   | true =>
    have n2:=HH.o _ N7;rw [N7,aw rfl] at Mr
    go_wp2_with fail
    refine (qO v.name w2 KH (HS.o.below cm.o)).mono ?_;rintro e w3 ⟨rfl,hb3⟩;have cJ:=aa (cm.o.trans (hb3.mono cm.o.size));have n9:=aa ((hb3.block _ (aq B8.o)).trans B8.o);clear hb3 cm B8 n0;have n0:=cr n9.o 0 _ rfl
    have n2':w3.cell? ⟨Bd,2,none⟩=some (.bool true):=by simp [World.cell?,n9.o,N7]
    rw [<- Mr.o];clear N7 n2;generalize nE v=nm at *;cases nm with
    | false =>
     rw [aw rfl] at kj;have HR:Hid (dJ g=(v.name,10)):=aa (by rw [HE.o,kj.o];rfl);go_wp2;go_ret2;exact ⟨by rw [HR.o];rfl,cJ.o⟩
    | true =>
     rw [bh (by decide)] at kj;cases tw with
     | true =>
      rw [aw rfl] at kj;have HR:Hid (dJ g=(v.name,9)):=aa (by rw [HE.o,kj.o];rfl);go_wp2;go_ret2;exact ⟨by rw [HR.o];rfl,cJ.o⟩
     | false =>
      rw [bh (by decide)] at kj;have n5:=cr n9.o 5 _ rfl;have n4:=cr n9.o 4 _ rfl
      by_cases hr:1<=v.Gf.length/\v.Gf.length<=64
      ·rw [bh (fun h=>h hr)] at kj
       have k1:decide ((v.Gf.length:Int)<1)=false:=cN (by omega);have k2:decide ((64:Int)<(v.Gf.length:Int))=false:=cN (by omega);clear hr
       go_wp2_with fail
       refine (kZ (ok:=ok) v.tags _ w3 ((ck.moves aF.moves).mv (Mv.of cJ.o) Hx.o) Pb.o.1 Pb.o.2).mono ?_;rintro e w5 ⟨rfl,hb5⟩;have eK:=aa (cJ.o.trans (hb5.mono cJ.o.size));have n0':w5.cell? ⟨Bd,0,none⟩=some (.string v.name):=by simp [World.cell?,(hb5.block _ (aq n9.o)).trans n9.o]
       clear hb5 cJ n9 n0 n2' n4 n5 k1 k2
       by_cases ht:eP v.tags=0
       ·have Nh:(eP v.tags != 0)=false:=by rw [ht];rfl
        have HR:Hid (dJ g=gZ ay.name (yH g) (k+1) (g.F9.drop (k+1))):=aa (by rw [HE.o,aw (by rw [kj.o,ht])]);clear ht;go_wp2;go_roundw
        case rel=>exact ⟨k+1,by omega,by go_num,eK.o,HR.o⟩
        case measure=>simp [intOf];omega
       ·have Nh:(eP v.tags != 0)=true:=by simpa using ht
        have HR:Hid (dJ g=(v.name,eP v.tags)):=aa (by rw [HE.o,kj.o,bh ht]);clear ht;go_wp2;go_ret2;exact ⟨by rw [HR.o];rfl,eK.o⟩
      ·rw [aw hr] at kj
       have HR:Hid (dJ g=(v.name,4)):=aa (by rw [HE.o,kj.o];rfl)
       by_cases r1:v.Gf.length<1
       ·have k1:decide ((v.Gf.length:Int)<1)=true:=eA (by omega)
        go_wp2;go_ret2;exact ⟨by rw [HR.o];rfl,cJ.o⟩
       ·have k1:decide ((v.Gf.length:Int)<1)=false:=cN (by omega)
        have k2:decide ((64:Int)<(v.Gf.length:Int))=true:=eA (by omega);go_wp2;go_ret2;exact ⟨by rw [HR.o];rfl,cJ.o⟩
   | false =>
    have n2:=HH.o _ N7;rw [N7,bh (by decide)] at Mr
    go_wp2_with fail
    refine (fT v.name w2 KH (HS.o.below cm.o)).mono ?_;rintro e w3 ⟨rfl,hb3⟩;have cJ:=aa (cm.o.trans (hb3.mono cm.o.size));have n9:=aa ((hb3.block _ (aq B8.o)).trans B8.o);clear hb3 cm B8 n0;have n0:=cr n9.o 0 _ rfl
    have n2':w3.cell? ⟨Bd,2,none⟩=some (.bool false):=by simp [World.cell?,n9.o,N7]
    rw [<- Mr.o];clear N7 n2;generalize nE v=nm at *;cases nm with
    | false =>
     rw [aw rfl] at kj;have HR:Hid (dJ g=(v.name,10)):=aa (by rw [HE.o,kj.o];rfl);go_wp2;go_ret2;exact ⟨by rw [HR.o];rfl,cJ.o⟩
    | true =>
     rw [bh (by decide)] at kj;cases tw with
     | true =>
      rw [aw rfl] at kj;have HR:Hid (dJ g=(v.name,9)):=aa (by rw [HE.o,kj.o];rfl);go_wp2;go_ret2;exact ⟨by rw [HR.o];rfl,cJ.o⟩
     | false =>
      rw [bh (by decide)] at kj;have n5:=cr n9.o 5 _ rfl;have n4:=cr n9.o 4 _ rfl
      by_cases hr:1<=v.Gf.length/\v.Gf.length<=64
      ·rw [bh (fun h=>h hr)] at kj
       have k1:decide ((v.Gf.length:Int)<1)=false:=cN (by omega);have k2:decide ((64:Int)<(v.Gf.length:Int))=false:=cN (by omega);clear hr
       go_wp2_with fail
       refine (kZ (ok:=ok) v.tags _ w3 ((ck.moves aF.moves).mv (Mv.of cJ.o) Hx.o) Pb.o.1 Pb.o.2).mono ?_;rintro e w5 ⟨rfl,hb5⟩;have eK:=aa (cJ.o.trans (hb5.mono cJ.o.size));have n0':w5.cell? ⟨Bd,0,none⟩=some (.string v.name):=by simp [World.cell?,(hb5.block _ (aq n9.o)).trans n9.o]
       clear hb5 cJ n9 n0 n2' n4 n5 k1 k2
       by_cases ht:eP v.tags=0
       ·have Nh:(eP v.tags != 0)=false:=by rw [ht];rfl
        have HR:Hid (dJ g=gZ ay.name (yH g) (k+1) (g.F9.drop (k+1))):=aa (by rw [HE.o,aw (by rw [kj.o,ht])]);clear ht;go_wp2;go_roundw
        case rel=>exact ⟨k+1,by omega,by go_num,eK.o,HR.o⟩
        case measure=>simp [intOf];omega
       ·have Nh:(eP v.tags != 0)=true:=by simpa using ht
        have HR:Hid (dJ g=(v.name,eP v.tags)):=aa (by rw [HE.o,kj.o,bh ht]);clear ht;go_wp2;go_ret2;exact ⟨by rw [HR.o];rfl,eK.o⟩
      ·rw [aw hr] at kj
       have HR:Hid (dJ g=(v.name,4)):=aa (by rw [HE.o,kj.o];rfl)
       by_cases r1:v.Gf.length<1
       ·have k1:decide ((v.Gf.length:Int)<1)=true:=eA (by omega)
        go_wp2;go_ret2;exact ⟨by rw [HR.o];rfl,cJ.o⟩
       ·have k1:decide ((v.Gf.length:Int)<1)=false:=cN (by omega)
        have k2:decide ((64:Int)<(v.Gf.length:Int))=true:=eA (by omega);go_wp2;go_ret2;exact ⟨by rw [HR.o];rfl,cJ.o⟩
  ·obtain rfl:k=g.F9.length:=by omega
   have HR:Hid (dJ g=(⟨#[]⟩,0)):=aa (by rw [HE.o,rB];rfl);go_wp2;go_ret2;exact ⟨by rw [HR.o];rfl,hB⟩
def dO (g:af)(nm:ByteArray):Int:=C8 ((aM g.F9 nm).getD eY)
theorem Eh:qD eY:=⟨by simp [eY],by simp [eY],by simp [eY]⟩
theorem Dt {g:af}(hz:JT g)(nm:ByteArray):qD ((aM g.F9 nm).getD eY):=by
 cases h:aM g.F9 nm with
 | none=>exact Eh
 | some v=>exact hz.vz v (eV h)
theorem yC {ok:Nat->Prop}(g:af)(a:bN)(bc Bc:Nat)(nm:ByteArray)(w:World)(kB:gY w bc g a)(hcc:w.cell? ⟨Bc,0,none⟩=some (.pointer (some ⟨bc,0,none⟩)))(hg:dN ok w g a)(hz:JT g) :
  Calls prog 148 #[.string nm,.pointer (some ⟨Bc,0,none⟩)] w fun e w'=>e=.returned (.int .i64 (dO g nm))/\Below w.heap.size w w':=by
 have jt:=kB.lt;obtain ⟨sm,hblk,_⟩:=kB;have nw:Hid (bX w bc sm g a):=aa hblk;clear hblk;obtain ⟨g0,g1,g2,g3,g4,g5,g6,g7,g8⟩:=bX.cells nw.o;have HG:=aa hg;clear hg;have HZ:=aa hz;clear hz;have Ko:=Dt HZ.o nm;have GF:=Ko.Gf;have HL:Hid (dO g nm=_):=aa (dO.eq_1 g nm);go_enter func148,ntmps148
 go_wp2_with fail
 refine (fA (ok:=ok) g a nm w HG.o.F9 HZ.o.vl HZ.o.vz).mono ?_;rintro e w2 ⟨u,rfl,sA,hb2⟩;generalize (aM g.F9 nm).isSome=is at *;generalize (aM g.F9 nm).getD eY=x at *;have HV:=aa sA;have cm:=aa hb2;obtain ⟨tv,sv,rfl,ew,fL⟩:=sA;obtain ⟨tp,tc,rfl,_,_⟩:=ew.cap;obtain ⟨sp,sc,rfl,_,_⟩:=fL.cap;clear ew fL hb2 g0 g1 g2 g3 g4 g5 g6 g7 g8 hcc;have hA:=ae w2 (.cells #[.string x.name,.int .u64 x.id,.bool x.hidden,.bool x.ro,.slice tp x.tags.length tc,.slice sp x.Gf.length sc] 55);have cJ:=aa (cm.o.trans (hA.mono cm.o.size));have Ya:=aa (aN.moves.mv (Mv.of hA) HV.o);have N0:=b9 w2 (.cells #[.string x.name,.int .u64 x.id,.bool x.hidden,.bool x.ro,.slice tp x.tags.length tc,.slice sp x.Gf.length sc] 55)
 have xL:=cr N0
 obtain ⟨x0,x1,x2,x3,x4,x5⟩:=JR xL;clear hA N0 xL
 go_wp2_with fail
 refine (yz (ok:=fun b=>ok b\/w.heap.size<=b) x _ _ Ya.o (by omega)).mono ?_;rintro e w4 ⟨rfl,hb4⟩;have eI:=aa (cJ.o.trans (hb4.mono cJ.o.size));clear hb4 x0 x1 x2 x3 x4 x5;go_wp2;go_ret;exact ⟨bB HL.o.symm,eI.o⟩
def MJ (s:aB)(i:Nat):ByteArray:=((s.Ga[i]?).getD ⟨false,⟨#[]⟩,0⟩).on
def BZ (g:af)(s:aB):Int:=(s.length*g.Gd+s.chunk - 1) / s.chunk
def Fe (g:af)(s:aB):Bool:=s.log.toList.isEmpty||decide (1+(BZ g s+64 - 1) / 64<=dO g s.log*g.Gd)
def ER (g:af)(s:aB):Bool:=decide (s.length / ((s.Ga.length:Int) - 1)*g.Gd+16<=dO g (MJ s 0)*g.Gd)
def CX (g:af)(s:aB):Bool :=
 if s.kind=3 then s.Ga.all (fun a=>dO g a.on == s.length)&&Fe g s
 else if s.kind=4 then s.Ga.all (fun a=>dO g a.on == dO g (MJ s 0))&&ER g s
 else if s.kind=5 then dO g (MJ s 1) == s.length
 else if s.kind=7 then dO g (MJ s 0) == s.length else true
def xh (g:af)(s:aB):Int:=if CX g s then 0 else 3
structure Ah (s:aB):Prop where
 fm:wM s
 c3:s.kind=3->1<=s.chunk/\s.chunk<=1024
 a4:s.kind=4->3<=s.Ga.length
def Cu (g:af):Prop:=∀ nm,0<=dO g nm/\dO g nm<=10000000
theorem tN (n d:Int)(w:World)(h0:0<=n)(h1:n<=1000000000000)(h2:1<=d)(h3:d<=1000000) :
  Calls prog 151 #[.int .i64 n,.int .i64 d] w fun e w'=>e=.returned (.int .i64 ((n+d - 1) / d))/\Below w.heap.size w w' :=
 (CV n d w h0 h1 h2 h3).mono fun _ _ ⟨h,e⟩=>⟨h,e ▸ bj _ _⟩
theorem zb {ok:Nat->Prop}(g:af)(a:bN)(bc Bc Bl:Nat)(v:ay)(s:aB)(u1 u2:List Value)(w:World)(kB:gY w bc g a)(hcc:w.cell? ⟨Bc,0,none⟩=some (.pointer (some ⟨bc,0,none⟩)))(Hh:Bc<w.heap.size)
  (JI:w.cell? ⟨Bl,0,none⟩=some (.func (.func 148) #[] #[.pointer (some ⟨Bc,0,none⟩)])) (hbl:Bl<w.heap.size) (hg:dN ok w g a) (hz:JT g) (Li:Cu g) (hx:1<=g.Gd/\g.Gd<=1024)
  (hv:aN ok w u1 v) (hs:bC ok w u2 s) (hf:Ah s) :
  Calls prog 150 #[.agg u1.toArray,.agg u2.toArray,.pointer (some ⟨Bl,0,none⟩),.pointer (some ⟨Bc,0,none⟩)] w fun e w'=>e=.returned (.int .i64 (xh g s))/\Below w.heap.size w w':=by
 have jt:=kB.lt;obtain ⟨tv,sv,rfl,ew,fL⟩:=hv;obtain ⟨tp,tc,rfl,_,_⟩:=ew.cap;obtain ⟨sp,sc,rfl,_,_⟩:=fL.cap;obtain ⟨av,kp,rfl,gg,hst⟩:=hs;obtain ⟨ap,ac,rfl,Jl,Jm⟩:=gg.cap;obtain ⟨eN,eR,rfl,hsc1,hsc2⟩:=hst.cap;have ya:=aa gg;clear ew fL gg hst;have I3:=aa kB;obtain ⟨sm,hblk,_⟩:=kB;have nw:Hid (bX w bc sm g a):=aa hblk;clear hblk;have HG:=aa hg;clear hg;have HZ:=aa hz;clear hz;have O6:=aa hf;have hl0:=hf.fm.l0;have hl1:=hf.fm.l1;have LB:=hf.fm.ar;clear hf;have Qc:=aa Li;clear Li;have HX:=aa hx;clear hx;have J5:=aa hcc;have K9:=aa JI;have hb2:=(ae w (.cells #[.string v.name,.int .u64 v.id,.bool v.hidden,.bool v.ro,.slice tp v.tags.length tc,.slice sp v.Gf.length sc] 55)).trans ((ae (w.alloc (.cells #[.string v.name,.int .u64 v.id,.bool v.hidden,.bool v.ro,.slice tp v.tags.length tc,.slice sp v.Gf.length sc] 55)) (.cells #[.int .i64 s.start,.int .i64 s.length,.int .i64 s.kind,.slice ap s.Ga.length ac,.int .i64 s.chunk,.slice eN s.stale.length eR,.string s.log,.string s.pool,.int .i64 s.device,.int .i64 s.mode,.int .i64 s.done] 79)).mono (ae w _).size)
 have h1:((w.alloc (.cells #[.string v.name,.int .u64 v.id,.bool v.hidden,.bool v.ro,.slice tp v.tags.length tc,.slice sp v.Gf.length sc] 55)).alloc (.cells #[.int .i64 s.start,.int .i64 s.length,.int .i64 s.kind,.slice ap s.Ga.length ac,.int .i64 s.chunk,.slice eN s.stale.length eR,.string s.log,.string s.pool,.int .i64 s.device,.int .i64 s.mode,.int .i64 s.done] 79)).heap[w.heap.size+1]?=some (.cells #[.int .i64 s.start,.int .i64 s.length,.int .i64 s.kind,.slice ap s.Ga.length ac,.int .i64 s.chunk,.slice eN s.stale.length eR,.string s.log,.string s.pool,.int .i64 s.device,.int .i64 s.mode,.int .i64 s.done] 79 (0,0)):=by
  have:=b9 (w.alloc (.cells #[.string v.name,.int .u64 v.id,.bool v.hidden,.bool v.ro,.slice tp v.tags.length tc,.slice sp v.Gf.length sc] 55)) (.cells #[.int .i64 s.start,.int .i64 s.length,.int .i64 s.kind,.slice ap s.Ga.length ac,.int .i64 s.chunk,.slice eN s.stale.length eR,.string s.log,.string s.pool,.int .i64 s.device,.int .i64 s.mode,.int .i64 s.done] 79);rw [cW] at this;exact this
 have cm:=aa hb2;clear hb2;have H1:=aa h1;clear h1
 have LI:∀ wr:World,wr.heap[w.heap.size+1]?=some (.cells #[.int .i64 s.start,.int .i64 s.length,.int .i64 s.kind,.slice ap s.Ga.length ac,.int .i64 s.chunk,.slice eN s.stale.length eR,.string s.log,.string s.pool,.int .i64 s.device,.int .i64 s.mode,.int .i64 s.done] 79 (0,0))->∀ (j:Nat) (z:Value),[.int .i64 s.start,.int .i64 s.length,.int .i64 s.kind,.slice ap s.Ga.length ac,.int .i64 s.chunk,.slice eN s.stale.length eR,.string s.log,.string s.pool,.int .i64 s.device,.int .i64 s.mode,.int .i64 s.done][j]?=some z->wr.cell? ⟨w.heap.size+1,j,none⟩=some z:=fun wr h j z hz=>by
  simp only [World.cell?,h];simpa using hz
 have SL:=aa LI;clear LI
 have Ys:∀ (wr:World) (nm:ByteArray),Below w.heap.size w wr->Calls prog 148 #[.string nm,.pointer (some ⟨Bc,0,none⟩)] wr fun e w'=>e=.returned (.int .i64 (dO g nm))/\Below wr.heap.size wr w':=fun wr nm hB =>
  yC (ok:=ok) g a bc Bc nm wr (I3.o.below hB) ((hB.cell Hh).trans J5.o) (HG.o.mv (Mv.of hB)) HZ.o
 have HLEN:=aa Ys;clear Ys hcc JI;have HE:Hid (xh g s=_):=aa (xh.eq_1 g s);have ox:Hid (CX g s=_):=aa (CX.eq_1 g s);go_enter func150,ntmps150
 go_upto_region 2 with (fail)
 generalize hW2:World.alloc (World.alloc w _) _=W2 at *;clear hW2;have s2:=SL.o W2 H1.o 2 _ rfl
 by_cases h3:s.kind=3
 ·have h3b:(s.kind == 3)=true:=by simpa using h3
  rw [aw h3] at ox;have hn:=O6.o.c3 h3;clear h3;have HMB:Hid (Fe g s=_):=aa (Fe.eq_1 g s);have hn1:=hn.1;have hn2:=hn.2;clear hn;have s3:=SL.o W2 H1.o 3 _ rfl
  go_upto_region 5 with (fail)
  clear s2 s3
  go_loopw [20,7] (fun i x wr=>∃ k:Nat,k<=s.Ga.length/\i=.int .i64 k/\x=.bool ((s.Ga.take k).all (fun a=>dO g a.on == s.length))/\Below w.heap.size w wr/\wr.heap[w.heap.size+1]?=some (.cells #[.int .i64 s.start,.int .i64 s.length,.int .i64 s.kind,.slice ap s.Ga.length ac,.int .i64 s.chunk,.slice eN s.stale.length eR,.string s.log,.string s.pool,.int .i64 s.device,.int .i64 s.mode,.int .i64 s.done] 79 (0,0))) (fun i _ _=>s.Ga.length - (intOf i).toNat)
  case atStart=>exact ⟨0,cg _,rfl,rfl,cm.o,H1.o⟩
  case round =>
   clear cm H1;obtain ⟨k,hk,rfl,rfl,hB,hx1⟩:=hrel;have H1:=aa hx1;clear hx1
   by_cases hlt:k<s.Ga.length
   ·obtain ⟨r,hr⟩:=aj s.Ga k hlt
    obtain ⟨b,off,us,rfl,_,cX,wb,wj,hcv'⟩:=ya.o.elem hr;obtain rfl:us=_:=wj;have cT:wr.heap[b]?=w.heap[b]?:=hB.block b cX;have q0:=(cd (a:=⟨b,off+k*3,none⟩) cT).trans (hcv' 0 _ rfl);have q1:=(cd (a:=⟨b,off+k*3+1,none⟩) cT).trans (hcv' 1 _ rfl);have q2:=(cd (a:=⟨b,off+k*3+2,none⟩) cT).trans (hcv' 2 _ rfl);have cE:Hid ((s.Ga.take (k+1)).all (fun a=>dO g a.on == s.length)=((s.Ga.take k).all (fun a=>dO g a.on == s.length)&&(dO g r.on == s.length))):=aa (by rw [take_snoc' s.Ga k r hr,List.all_append];simp);clear hcv' wb cT hr;have hA:=ae wr (.cells #[.bool r.vol,.string r.on,.int .i64 r.start] 60);have pL:=aa (b9 wr (.cells #[.bool r.vol,.string r.on,.int .i64 r.start] 60));have cU:=aa (hB.trans (hA.mono hB.size));have H11:=aa ((hA.block _ (aq H1.o)).trans H1.o);clear hA;generalize (s.Ga.take k).all (fun a=>dO g a.on == s.length)=x at *
    go_upto_region 7 with (fail)
    generalize hW3:World.alloc wr _=W3 at *;generalize hB3:wr.heap.size=Ba at *;clear hW3 hB3 hB q0 q1 q2 H1;cases x with
    | true =>
     have a1:=cr pL.o 1 _ rfl;have s1:=cr H11.o 1 _ rfl
     have l0:=(cU.o.cell (p:=⟨Bl,0,none⟩) hbl).trans K9.o;have el0:=aG (cP W3 _ l0) l0;have es1:=aG (cP W3 _ s1) s1;have VI:=aG (cP W3 _ a1) a1;have La:Hid (∀ (p:fo) nm,Calls prog 148 #[.string nm,.pointer (some ⟨Bc,0,none⟩)] (ext W3 p) fun e w'=>e=.returned (.int .i64 (dO g nm))/\Below (ext W3 p).heap.size (ext W3 p) w'):=aa fun p nm=>HLEN.o _ nm (mn cU.o (dQ W3 p))
     (refine aU (by kernel_rfl) (by kernel_rfl) ?_;(repeat (go_big_quiet_step ((go_at_call 148;exact iH (La.o _ _)))));(with_reducible refine fR ?_);intro wq ia;have kq:=dY ia;clear ia)
     have fy:=aa (cU.o.trans (kq.mono cU.o.size));have O7:=aa ((kq.block _ (aq H11.o)).trans H11.o);clear kq el0 es1 VI a1 s1 l0;go_wp2;go_roundw
     case rel=>exact ⟨k+1,by omega,by go_num,by rw [cE.o];rfl,fy.o,O7.o⟩
     case measure=>simp [intOf];omega
    | false =>
     go_quiet (fail);go_wp2;go_roundw
     case rel=>exact ⟨k+1,by omega,by go_num,by rw [cE.o];rfl,aT cU.o _,H11.o⟩
     case measure=>simp [intOf];omega
   ·obtain rfl:k=s.Ga.length:=by omega
    rw [cI];generalize s.Ga.all (fun a=>dO g a.on == s.length)=x at *;rw [HMB.o] at ox;have s1:=cr H1.o 1 _ rfl;have s4:=cr H1.o 4 _ rfl
    have cB:=(hB.cell (p:=⟨Bc,0,none⟩) Hh).trans J5.o;obtain ⟨-,-,-,g3,-,-,-,-,-⟩:=bX.cells (sm:=sm) ((hB.block bc jt).trans nw.o);have es1:=aG (cP wr _ s1) s1;have es4:=aG (cP wr _ s4) s4;have Rs:=aG (cP wr _ cB) cB;have eg3:=aG (cP wr _ g3) g3;have x1:=HX.o.1;have x2:=HX.o.2;have m0:0<=s.length*g.Gd:=oA (by omega) (by omega);have m1:s.length*g.Gd<=32768*1024:=tW hl1 x2 (by omega) (by omega);have w1:IntKind.i64.wrap (s.length*g.Gd)=s.length*g.Gd:=dy _ (by omega);have r0:0<=BZ g s:=lz (by omega) (by omega);have r1:BZ g s<=s.length*g.Gd+s.chunk - 1:=mS _ (by omega);have Yt:Hid (BZ g s=_):=aa (BZ.eq_1 g s)
    go_upto_region 9 with (fail)
    (refine aU (by kernel_rfl) (by kernel_rfl) ?_;(repeat (go_big_quiet_step ((go_at_call 151;exact iH (tN _ _ _ (by omega) (by omega) (by omega) (by omega))))));(with_reducible refine fR ?_);intro wq ia;have kq:=dY ia;clear ia)
    have fy:=aa (hB.trans (kq.mono hB.size));have O7:=aa ((kq.block _ (aq H1.o)).trans H1.o);clear kq es1 es4 Rs eg3 s1 s4 cB g3 w1;rw [<- Yt.o];generalize BZ g s=R at *;clear Yt
    go_upto_region 10 with (fail)
    cases x with
    | false =>
     rw [ox.o] at HE;go_quiet (fail);go_wp2;go_ret;exact ⟨bB (by rw [HE.o];rfl),aT fy.o _⟩
    | true =>
     have s6:=cr O7.o 6 _ rfl
     by_cases hle:s.log.toList.isEmpty=true
     ·rw [hle] at ox
      rw [ox.o] at HE;go_quiet (fail);go_wp2;go_ret;exact ⟨bB (by rw [HE.o];rfl),aT fy.o _⟩
     ·have hle':s.log.toList.isEmpty=false:=by simpa using hle
      rw [hle'] at ox;clear hle;have l0:=(fy.o.cell (p:=⟨Bl,0,none⟩) hbl).trans K9.o;have cB:=(fy.o.cell (p:=⟨Bc,0,none⟩) Hh).trans J5.o;obtain ⟨-,-,-,g3,-,-,-,-,-⟩:=bX.cells (sm:=sm) ((fy.o.block bc jt).trans nw.o);have el0:=aG (cP wq _ l0) l0;have es6:=aG (cP wq _ s6) s6;have Rs:=aG (cP wq _ cB) cB;have eg3:=aG (cP wq _ g3) g3;have lb:=Qc.o s.log;have lb0:=lb.1;have lb1:=lb.2;have La:Hid (∀ (p:fo),Calls prog 148 #[.string s.log,.pointer (some ⟨Bc,0,none⟩)] (ext wq p) fun e w'=>e=.returned (.int .i64 (dO g s.log))/\Below (ext wq p).heap.size (ext wq p) w'):=aa fun p=>HLEN.o _ _ (mn fy.o (dQ wq p));generalize dO g s.log=L at *;have v0:0<=L*g.Gd:=oA lb0 (by omega);have v1:L*g.Gd<=10000000*1024:=tW lb1 x2 (by omega) (by omega);have w1:IntKind.i64.wrap (L*g.Gd)=L*g.Gd:=dy _ (by omega);have y0:0<=(R+64 - 1) / 64:=lz (by omega) (by omega);have y1:(R+64 - 1) / 64<=R+64 - 1:=mS _ (by omega);have w2:IntKind.i64.wrap (1+(R+64 - 1) / 64)=1+(R+64 - 1) / 64:=dy _ (by omega)
      (refine aU (by kernel_rfl) (by kernel_rfl) ?_;(repeat (go_big_quiet_step ((first | (go_at_call 151;exact iH (tN _ _ _ (by omega) (by omega) (by omega) (by omega))) | (go_at_call 148;exact iH (La.o _))))));(with_reducible refine fR ?_);intro wq ia;have kq:=dY ia;clear ia)
      have Fc:=aa (fy.o.trans (kq.mono fy.o.size));clear kq el0 es6 Rs eg3 l0 cB g3 s6 w1 w2;rw [ox.o] at HE;generalize 1+(R+64 - 1) / 64=X at *;generalize L*g.Gd=Y at *
      by_cases hc:X<=Y
      ·rw [eA hc] at HE
       go_wp2;go_ret;exact ⟨bB (by rw [HE.o];rfl),Fc.o⟩
      ·rw [cN hc] at HE
       go_wp2;go_ret;exact ⟨bB (by rw [HE.o];rfl),Fc.o⟩
 ·have h3b:(s.kind == 3)=false:=by simpa using h3
  rw [bh h3] at ox;clear h3
  by_cases h4:s.kind=4
  ·have h4b:(s.kind == 4)=true:=by simpa using h4
   rw [aw h4] at ox;have hn:=O6.o.a4 h4;clear h4;obtain ⟨r0,hr0⟩:=aj s.Ga 0 (by omega);have ho:MJ s 0=r0.on:=by simp [MJ,hr0]
   rw [ho] at ox;have Kp:Hid (ER g s=_):=aa (ER.eq_1 g s);rw [ho] at Kp;obtain ⟨b,off,us,rfl,_,cX,ez,eE,hcv⟩:=ya.o.elem hr0;obtain rfl:us=_:=eE;have Z1:=aa (hcv 1 _ rfl);clear hcv ez hr0 ho;have s3:=SL.o W2 H1.o 3 _ rfl
   go_upto_region 13 with (fail)
   clear s2 s3
   go_loopw [73,7] (fun i x wr=>∃ k:Nat,k<=s.Ga.length/\i=.int .i64 k/\x=.bool ((s.Ga.take k).all (fun a=>dO g a.on == dO g r0.on))/\Below w.heap.size w wr/\wr.heap[w.heap.size+1]?=some (.cells #[.int .i64 s.start,.int .i64 s.length,.int .i64 s.kind,.slice (some ⟨b,off,none⟩) s.Ga.length ac,.int .i64 s.chunk,.slice eN s.stale.length eR,.string s.log,.string s.pool,.int .i64 s.device,.int .i64 s.mode,.int .i64 s.done] 79 (0,0))) (fun i _ _=>s.Ga.length - (intOf i).toNat)
   case atStart=>exact ⟨0,cg _,rfl,rfl,cm.o,H1.o⟩
   case round =>
    clear cm H1;obtain ⟨k,hk,rfl,rfl,hB,hx1⟩:=hrel;have H1:=aa hx1;clear hx1
    by_cases hlt:k<s.Ga.length
    ·obtain ⟨r,hr⟩:=aj s.Ga k hlt
     obtain ⟨b',off',us',e',_,J2,wb,wj,hcv'⟩:=ya.o.elem hr;injection e' with e'
     injection e' with eb eo
     subst eb;subst eo;obtain rfl:us'=_:=wj;have cT:wr.heap[b]?=w.heap[b]?:=hB.block b cX;have q0:=(cd (a:=⟨b,off+k*3,none⟩) cT).trans (hcv' 0 _ rfl);have q1:=(cd (a:=⟨b,off+k*3+1,none⟩) cT).trans (hcv' 1 _ rfl);have q2:=(cd (a:=⟨b,off+k*3+2,none⟩) cT).trans (hcv' 2 _ rfl);have cE:Hid ((s.Ga.take (k+1)).all (fun a=>dO g a.on == dO g r0.on)=((s.Ga.take k).all (fun a=>dO g a.on == dO g r0.on)&&(dO g r.on == dO g r0.on))):=aa (by rw [take_snoc' s.Ga k r hr,List.all_append];simp);clear hcv' wb cT J2 hr;have hA:=ae wr (.cells #[.bool r.vol,.string r.on,.int .i64 r.start] 60);have pL:=aa (b9 wr (.cells #[.bool r.vol,.string r.on,.int .i64 r.start] 60));have cU:=aa (hB.trans (hA.mono hB.size));have H11:=aa ((hA.block _ (aq H1.o)).trans H1.o);clear hA;generalize (s.Ga.take k).all (fun a=>dO g a.on == dO g r0.on)=x at *
     go_upto_region 15 with (fail)
     generalize hW3:World.alloc wr _=W3 at *;generalize hB3:wr.heap.size=Ba at *;clear hW3 hB3 hB q0 q1 q2 H1;cases x with
     | true =>
      have a1:=cr pL.o 1 _ rfl;have s3:=cr H11.o 3 _ rfl
      have l0:=(cU.o.cell (p:=⟨Bl,0,none⟩) hbl).trans K9.o;have z1:=(cU.o.cell (p:=⟨b,off+0*3+1,none⟩) cX).trans Z1.o;have el0:=aG (cP W3 _ l0) l0;have es3:=aG (cP W3 _ s3) s3;have VI:=aG (cP W3 _ a1) a1;have VJ:=aG (cP W3 _ z1) z1;have La:Hid (∀ (p:fo) nm,Calls prog 148 #[.string nm,.pointer (some ⟨Bc,0,none⟩)] (ext W3 p) fun e w'=>e=.returned (.int .i64 (dO g nm))/\Below (ext W3 p).heap.size (ext W3 p) w'):=aa fun p nm=>HLEN.o _ nm (mn cU.o (dQ W3 p))
      (refine aU (by kernel_rfl) (by kernel_rfl) ?_;(repeat (go_big_quiet_step ((go_at_call 148;exact iH (La.o _ _)))));(with_reducible refine fR ?_);intro wq ia;have kq:=dY ia;clear ia)
      have fy:=aa (cU.o.trans (kq.mono cU.o.size));have O7:=aa ((kq.block _ (aq H11.o)).trans H11.o);clear kq el0 es3 VI VJ a1 s3 l0 z1;go_wp2;go_roundw
      case rel=>exact ⟨k+1,by omega,by go_num,by rw [cE.o];rfl,fy.o,O7.o⟩
      case measure=>simp [intOf];omega
     | false =>
      go_quiet (fail);go_wp2;go_roundw
      case rel=>exact ⟨k+1,by omega,by go_num,by rw [cE.o];rfl,aT cU.o _,H11.o⟩
      case measure=>simp [intOf];omega
    ·obtain rfl:k=s.Ga.length:=by omega
     rw [cI];generalize s.Ga.all (fun a=>dO g a.on == dO g r0.on)=x at *;rw [Kp.o] at ox;cases x with
     | true =>
      have s1:=cr H1.o 1 _ rfl;have s3:=cr H1.o 3 _ rfl
      have l0:=(hB.cell (p:=⟨Bl,0,none⟩) hbl).trans K9.o;have cB:=(hB.cell (p:=⟨Bc,0,none⟩) Hh).trans J5.o;have z1:=(hB.cell (p:=⟨b,off+0*3+1,none⟩) cX).trans Z1.o;obtain ⟨-,-,-,g3,-,-,-,-,-⟩:=bX.cells (sm:=sm) ((hB.block bc jt).trans nw.o);have el0:=aG (cP wr _ l0) l0;have es1:=aG (cP wr _ s1) s1;have es3:=aG (cP wr _ s3) s3;have Rs:=aG (cP wr _ cB) cB;have eg3:=aG (cP wr _ g3) g3;have VJ:=aG (cP wr _ z1) z1;have La:Hid (∀ (p:fo) nm,Calls prog 148 #[.string nm,.pointer (some ⟨Bc,0,none⟩)] (ext wr p) fun e w'=>e=.returned (.int .i64 (dO g nm))/\Below (ext wr p).heap.size (ext wr p) w'):=aa fun p nm=>HLEN.o _ nm (mn hB (dQ wr p));have lb:=Qc.o r0.on;have lb0:=lb.1;have lb1:=lb.2;have x1:=HX.o.1;have x2:=HX.o.2;generalize hL:dO g r0.on=L at *;have m0:0<=L*g.Gd:=oA lb0 (by omega);have m1:L*g.Gd<=10000000*1024:=tW lb1 x2 (by omega) (by omega);have w1:IntKind.i64.wrap (L*g.Gd)=L*g.Gd:=dy _ (by omega);have w2:IntKind.i64.wrap ((s.Ga.length:Int) - 1)=(s.Ga.length:Int) - 1:=dy _ (by omega);have n0:(((s.Ga.length:Int) - 1) == 0)=false:=by simp;omega
      have d0:s.length.tdiv ((s.Ga.length:Int) - 1)=s.length / ((s.Ga.length:Int) - 1):=CC (by omega);have d1:0<=s.length / ((s.Ga.length:Int) - 1):=lz (by omega) (by omega);have d2:s.length / ((s.Ga.length:Int) - 1)<=s.length:=mS _ (by omega);generalize s.length / ((s.Ga.length:Int) - 1)=D at *;have w3:IntKind.i64.wrap D=D:=dy _ (by omega);have m2:0<=D*g.Gd:=oA d1 (by omega);have m3:D*g.Gd<=32768*1024:=tW (by omega) x2 (by omega) (by omega);have w4:IntKind.i64.wrap (D*g.Gd)=D*g.Gd:=dy _ (by omega);have w5:IntKind.i64.wrap (D*g.Gd+16)=D*g.Gd+16:=dy _ (by omega);have VK:Hid (∀ (p:fo),Calls prog 148 #[.string r0.on,.pointer (some ⟨Bc,0,none⟩)] (ext wr p) fun e w'=>e=.returned (.int .i64 L)/\Below (ext wr p).heap.size (ext wr p) w'):=aa fun p=>by rw [<- hL];exact La.o p _
      clear La
      go_upto_region 17 with (fail)
      (refine aU (by kernel_rfl) (by kernel_rfl) ?_;(repeat (go_big_quiet_step ((go_at_call 148;exact iH (VK.o _)))));(with_reducible refine fR ?_);intro wq ia;have kq:=dY ia;clear ia)
      have fy:=aa (hB.trans (kq.mono hB.size));clear kq el0 es1 es3 Rs eg3 VJ s1 s3 l0 cB z1 g3 w1 w2 w3 w4 w5 d0 n0;generalize D*g.Gd=X at *;generalize L*g.Gd=Y at *;rw [ox.o] at HE
      by_cases hc:X+16<=Y
      ·rw [eA hc] at HE
       go_wp2;go_ret;exact ⟨bB (by rw [HE.o];rfl),fy.o⟩
      ·rw [cN hc] at HE
       go_wp2;go_ret;exact ⟨bB (by rw [HE.o];rfl),fy.o⟩
     | false =>
      rw [ox.o] at HE
      go_upto_region 17 with (fail)
      go_quiet (fail);go_wp2;go_ret;exact ⟨bB (by rw [HE.o];rfl),aT hB _⟩
  ·have h4b:(s.kind == 4)=false:=by simpa using h4
   rw [bh h4] at ox;clear h4
   by_cases h5:s.kind=5
   ·have h5b:(s.kind == 5)=true:=by simpa using h5
    rw [aw h5] at ox;have hn:=O6.o.fm.p5 h5;obtain ⟨r,hr⟩:=aj s.Ga 1 (by omega);have ho:MJ s 1=r.on:=by simp [MJ,hr]
    rw [ho] at ox;obtain ⟨b,off,us,rfl,_,cX,ez,eE,hcv⟩:=ya.o.elem hr;obtain rfl:us=_:=eE;have q1:=(cm.o.cell (p:=⟨b,off+1*3+1,none⟩) cX).trans (hcv 1 _ rfl);have s1:=SL.o W2 H1.o 1 _ rfl;have s3:=SL.o W2 H1.o 3 _ rfl;have l0:=(cm.o.cell (p:=⟨Bl,0,none⟩) hbl).trans K9.o;have el0:=aG (cP W2 _ l0) l0;have es1:=aG (cP W2 _ s1) s1;have es3:=aG (cP W2 _ s3) s3;have eq1:=aG (cP W2 _ q1) q1;have La:Hid (∀ (p:fo) nm,Calls prog 148 #[.string nm,.pointer (some ⟨Bc,0,none⟩)] (ext W2 p) fun e w'=>e=.returned (.int .i64 (dO g nm))/\Below (ext W2 p).heap.size (ext W2 p) w'):=aa fun p nm=>HLEN.o _ nm (mn cm.o (dQ W2 p));clear hcv ez hr ho cX
    go_upto_region 19 with (fail)
    (refine aU (by kernel_rfl) (by kernel_rfl) ?_;(repeat (go_big_quiet_step ((go_at_call 148;exact iH (La.o _ _)))));(with_reducible refine fR ?_);intro wq ia;have kq:=dY ia;clear ia)
    have fy:=aa (cm.o.trans (kq.mono cm.o.size));clear kq el0 es1 es3 eq1;generalize (dO g r.on == s.length)=x at *;rw [ox.o] at HE;cases x with
    | true =>
     go_wp2;go_ret;exact ⟨bB (by rw [HE.o];rfl),fy.o⟩
    | false =>
     go_wp2;go_ret;exact ⟨bB (by rw [HE.o];rfl),fy.o⟩
   ·have h5b:(s.kind == 5)=false:=by simpa using h5
    rw [bh h5] at ox;clear h5
    by_cases h7:s.kind=7
    ·have OY:(s.kind == 7)=true:=by simpa using h7
     rw [aw h7] at ox;have hn:=O6.o.fm.p7 h7;obtain ⟨r,hr⟩:=aj s.Ga 0 (by omega);have ho:MJ s 0=r.on:=by simp [MJ,hr]
     rw [ho] at ox;obtain ⟨b,off,us,rfl,_,cX,ez,eE,hcv⟩:=ya.o.elem hr;obtain rfl:us=_:=eE;have q1:=(cm.o.cell (p:=⟨b,off+0*3+1,none⟩) cX).trans (hcv 1 _ rfl);have s1:=SL.o W2 H1.o 1 _ rfl;have s3:=SL.o W2 H1.o 3 _ rfl;have l0:=(cm.o.cell (p:=⟨Bl,0,none⟩) hbl).trans K9.o;have el0:=aG (cP W2 _ l0) l0;have es1:=aG (cP W2 _ s1) s1;have es3:=aG (cP W2 _ s3) s3;have eq1:=aG (cP W2 _ q1) q1;have La:Hid (∀ (p:fo) nm,Calls prog 148 #[.string nm,.pointer (some ⟨Bc,0,none⟩)] (ext W2 p) fun e w'=>e=.returned (.int .i64 (dO g nm))/\Below (ext W2 p).heap.size (ext W2 p) w'):=aa fun p nm=>HLEN.o _ nm (mn cm.o (dQ W2 p));clear hcv ez hr ho cX
     go_upto_region 21 with (fail)
     (refine aU (by kernel_rfl) (by kernel_rfl) ?_;(repeat (go_big_quiet_step ((go_at_call 148;exact iH (La.o _ _)))));(with_reducible refine fR ?_);intro wq ia;have kq:=dY ia;clear ia)
     have fy:=aa (cm.o.trans (kq.mono cm.o.size));clear kq el0 es1 es3 eq1;generalize (dO g r.on == s.length)=x at *;rw [ox.o] at HE;cases x with
     | true =>
      go_wp2;go_ret;exact ⟨bB (by rw [HE.o];rfl),fy.o⟩
     | false =>
      go_wp2;go_ret;exact ⟨bB (by rw [HE.o];rfl),fy.o⟩
    ·have OY:(s.kind == 7)=false:=by simpa using h7
     rw [bh h7] at ox;rw [ox.o] at HE;clear h7;go_wp2;go_ret;exact ⟨bB (by rw [HE.o];rfl),cm.o⟩
end Go.Proofs.YtjdfihglehfelaaGreatDoor
