/- Lemmas: SpD, ModC. -/
import Derived.Test.YtaagglbgohjldaaGreatDoorQv11
set_option maxRecDepth 100000
set_option maxHeartbeats 32000000
set_option linter.all false
namespace Go.Proofs.YtaagglbgohjldaaGreatDoor
open Go.Proofs.Tryz
open Go.RowKit Go.Sort
variable {ok:Nat->Prop}
theorem yJ (l:List ByteArray)(v:Value)(w:World)(hr:ck aF 1 ok w [v] l)(hlen:l.length<=100000000) :
  Calls prog 65 #[v] w fun e w'=>∃ p n c,e=.returned (.slice p n c)/\Below w.heap.size w w':=by
 obtain ⟨p,cap,e,hlc,ij,hp⟩:=hr;obtain rfl:=List.singleton_inj.1 e;clear e;cases p with
 | none =>
  have hl:l=[]:=by
   cases l with
   | nil=>rfl
   | cons a l=>obtain ⟨b,off,e,_⟩:=hp TcD;cases e
  subst hl;refine (AnyE.slices_Clone_nil Tryz.cloneS _ _ w).mono ?_;rintro e w' ⟨rfl,rfl⟩;exact ⟨_,_,_,rfl,bj _ _⟩
 | some a =>
  by_cases h0:0<l.length
  ·obtain ⟨b,off,e,hb,_,hc⟩:=hp h0
   cases e
   obtain ⟨i0,hi,hz0,hz1,hz2⟩:=cy o5;refine (AnyE.slices_Clone Tryz.cloneS i0 _ 1 16 hi hz0 hz1 hz2 rfl TcF Tryz.sizeOf9 b off l.length cap (l.map Value.string) w TcD TcN TcC (fun j u hu=>?_) TcQ).mono ?_
   ·rw [rI] at hu;obtain ⟨x,hx,rfl⟩:=Option.map_eq_some_iff.1 hu;obtain ⟨u,hu1,hu2,hu3⟩:=hc j x hx;obtain rfl:u=[.string x]:=hu2;have:=hu3 0 _ rfl;simpa using this
   rintro e w' ⟨v',rfl,ho,_,hb'⟩;rcases ho.2 with ⟨rfl,_⟩ | ⟨g,c,cur,rfl,_⟩
   ·exact ⟨_,_,_,rfl,hb'⟩
   exact ⟨_,_,_,rfl,hb'⟩
  have hl:l=[]:=fX TcC;subst hl;have q22:∀ (w:World) (a:Option Addr) (n c n' c':Nat),(binOp .eql 26 (.slice a n c) (.slice none n' c')).run prog w=.ok (.bool a.isNone) w:=fun w a n c n' c'=>Cl w _ _ a n c n' c' underlying26;show Calls prog _ #[.slice (some a) 0 cap] w _;go_enter func65,ntmps65;go_wp2;go_ret;exact ⟨_,_,_,rfl,(bj _ _).alloc (bk _) _⟩
theorem jI {a b:ByteArray}(h:¬ a=b):(a.toList == b.toList)=false:=by
 rw [A6,A6];obtain ⟨⟨x⟩⟩:=a;obtain ⟨⟨y⟩⟩:=b;simp only [beq_eq_false_iff_ne];exact fun e=>h (by rw [show x=y from e])
theorem ui {Gb:List az}{nm:ByteArray}(h:∀ (j:Nat) (D:az),j<Gb.length->Gb[j]?=some D->¬ D.name=nm):Gb.find? (fun D=>decide (D.name=nm))=none:=by
 rw [List.find?_eq_none];intro D hD;obtain ⟨j,hj⟩:=fc hD;simpa using h j D (List.getElem?_eq_some_iff.1 hj).1 hj
theorem pR:∀ {Gb:List az} {nm:ByteArray} {k:Nat} {D:az},(∀ (j:Nat) (E:az),j<k->Gb[j]?=some E->¬ E.name=nm)->Gb[k]?=some D->D.name=nm->Gb.find? (fun D=>decide (D.name=nm))=some D
 | [],_,_,_,_,h,_=>by simp at h
 | E :: l,nm,0,D,_,h,e=>by
  obtain rfl:E=D:=by simpa using h
  simp [e]
 | E :: l,nm,k+1,D,hno,h,e=>by
  have h0:¬ E.name=nm:=hno 0 E TcC rfl;rw [List.find?_cons_of_neg Tdy];exact pR (k:=k) (fun j F hj hF=>hno (j+1) F TcC (by simpa using hF)) Tc5 e
def bH (Gb:List az)(nm:ByteArray):Option az:=Gb.find? fun D=>decide (D.name=nm)
def Tap (x0:az)(x1:Nat)(x2:Option Addr)(x3:Nat):Tab #[.string x0.name,.int .u64 x0.id,.int .i64 x0.first,.int .i64 x0.Gc,.bool x0.closed,.bool x0.missing,.slice x2 x1 x3]:=⟨⟩
def FE (Gb:List az)(nm:ByteArray)(w:World)(e:Ending)(w':World):Prop:=Below w.heap.size w w' /\
 match bH Gb nm with
 | some D=>∃ p n c,e=.returned (.tuple #[.agg (Tap D n p c),.bool true])
 | none=>e=.returned (.tuple #[.agg Taj,.bool false])
def Tav (x0:ByteArray)(x1:az)(x2:Option Addr)(x3:Nat):Tab #[.string x0,.int .u64 x1.id,.int .i64 x1.first,.int .i64 x1.Gc,.bool x1.closed,.bool x1.missing,.slice x2 x1.tags.length x3]:=⟨⟩
def Tao (x0:ByteArray)(x1:Int)(x2:Int)(x3:Int)(x4:Int)(x5:Nat)(x6:Option Addr)(x7:Nat)(x8:Nat)(x9:Option Addr)(x10:Nat)(x11:Nat)(x12:Option Addr)(x13:Nat)(x14:Nat)(x15:Option Addr)(x16:Nat):Tab #[.string x0,.int .u64 x1,.int .i64 x2,.int .i64 x3,.int .i64 x4,.slice x6 x5 x7,.slice x9 x8 x10,.slice x12 x11 x13,.slice x15 x14 x16]:=⟨⟩
theorem Ta8 {p:Prop}(h:p:=by
 ·have e1:=jI pD;go_wp2;go_roundw
  case rel =>
   refine ⟨k+1,TcC,TcG,fun j E hj hE=>?_,hB.alloc TcC _,TcH,(cj _ _ _ TcC).trans yi.o⟩;by_cases hjk:j=k
   ·subst hjk;rw [HD.o] at hE;injection hE with hE;rw [<- hE];exact pD
   exact Ty.o j E TcC hE
  simp [intOf];omega):p:=h
theorem Tdp {p:Prop}(h:p:=by show w.heap.size<=w.heap.size+1;omega):p:=h
theorem Ta4 {p:Prop}(h:p:=by
 have hL:∀ (V:World) (o:Nat) (z:Value),Below w.heap.size w V->Below w.heap.size w (V.setCell ⟨w.heap.size+1,o,none⟩ z):=fun V o z q=>q.setCell (p:=⟨w.heap.size+1,o,none⟩) Tdp z
 exact hL _ _ _ (hL _ _ _ (hL _ _ _ (hL _ _ _ (hL _ _ _ (hL _ _ _ (hL _ _ _ (cJ.o.setCell (p:=⟨Bx,6,none⟩) (by show w.heap.size<=Bx;omega) _)))))))):p:=h
theorem TdU {p:Prop}(h:p:=by simp [results,Tryz.results27,go_sem,r0,r1,r2,r3,r4,r5,r6]):p:=h
theorem vV (name:ByteArray)(id seq ext nx:Int)(tp dp vp hp:Option Addr)(tl tc dc vl vc hl hc:Nat)(Gb:List az)(nm:ByteArray)(w:World)(hr:ck aO 7 ok w [.slice dp Gb.length dc] Gb)(hd:Gb.length<=1000)(ht:∀ D∈Gb,D.tags.length<=1000) :
  Calls prog 27 #[.agg (Tao name id seq ext nx tl tp tc Gb.length dp dc vl vp vc hl hp hc),.string nm] w (FE Gb nm w):=by
 have HR:=aa hr;clear hr;have HT:=aa ht;clear ht;go_enter func27,ntmps27;go_wp2
 go_loopw [11] (fun i wr=>∃ k:Nat,k<=Gb.length/\i=.int .i64 k/\(∀ j D,j<k->Gb[j]?=some D->¬ D.name=nm)/\Below w.heap.size w wr/\w.heap.size+1<wr.heap.size/\wr.heap[w.heap.size+1]?=some (.cells Taj 51 (0,0))) (fun i _=>Gb.length - (intOf i).toNat)
 case atStart =>
  refine ⟨0,cg _,rfl,(fun j D hj=>by omega),((bj _ _).alloc (bk _) _).alloc TcD _,TcD,?_⟩;have:=b9 (w.alloc (.cells (Tao name id seq ext nx tl tp tc Gb.length dp dc vl vp vc hl hp hc) 31)) (.cells Taj 51);rw [cW] at this;exact this
 obtain ⟨k,hk,rfl,hno,hB,hz,hR⟩:=hrel;have Ty:=aa hno;clear hno;have r0:=cr hR 0 _ rfl;by_cases hlt:k<Gb.length
 ·obtain ⟨D,hD⟩:=aj Gb k hlt;obtain ⟨b,off,u,rfl,gR,cX,ez,sA,hcv⟩:=HR.o.elem hD;obtain ⟨tv,rfl,ew⟩:=sA;obtain ⟨tp',tc',rfl,_,_⟩:=ew.cap;have cT:wr.heap[b]?=w.heap[b]?:=hB.block b cX;have q0:=(cd (w:=w) (a:=⟨b,off+k*7,none⟩) cT).trans (hcv 0 _ rfl);have q1:=(cd (w:=w) (a:=⟨b,off+k*7+1,none⟩) cT).trans (hcv 1 _ rfl);have q2:=(cd (w:=w) (a:=⟨b,off+k*7+2,none⟩) cT).trans (hcv 2 _ rfl);have q3:=(cd (w:=w) (a:=⟨b,off+k*7+3,none⟩) cT).trans (hcv 3 _ rfl);have q4:=(cd (w:=w) (a:=⟨b,off+k*7+4,none⟩) cT).trans (hcv 4 _ rfl);have q5:=(cd (w:=w) (a:=⟨b,off+k*7+5,none⟩) cT).trans (hcv 5 _ rfl);have q6:=(cd (w:=w) (a:=⟨b,off+k*7+6,none⟩) cT).trans (hcv 6 _ rfl);have HD:=aa hD;clear hD;have Hx:=aa ew;clear ew;have yi:=aa hR;clear hR;clear hcv ez cT r0;by_cases pD:D.name=nm
  ·have G2:=ae wr (.cells (Tav nm D tp' tc') 51);have Vs:=aa (b9 wr (.cells (Tav nm D tp' tc') 51));have MW:=aa ((G2.block _ hz).trans yi.o);have pL:=aa (hB.trans (G2.mono TcC));have Qf:Hid (wr.heap.size<(wr.alloc (.cells (Tav nm D tp' tc') 51)).heap.size):=aa TcD;have nt:=HT.o D (ct HD.o);clear G2;go_wp2_with fail;generalize DA:wr.alloc _=WA at *;clear DA;refine (yJ (ok:=fun b=>ok b/\b<w.heap.size) D.tags _ _ ((ck.moves aF.moves).mv ⟨pL.o.size,fun b hb ho=>⟨⟨ho,hb⟩,pL.o.block b hb⟩⟩ Hx.o) TcC).mono ?_;rintro e w3 ⟨p3,n3,c3,rfl,hb3⟩;have hx:=(hb3.block _ Qf.o).trans Vs.o;have hr3:=(hb3.block _ (by have:=aq MW.o;omega)).trans MW.o;have xL:=cr hx;have rL:=cr hr3;have x0:=xL 0 _ rfl;have r0:=rL 0 _ rfl;have x1:=xL 1 _ rfl;have r1:=rL 1 _ rfl;have x2:=xL 2 _ rfl;have r2:=rL 2 _ rfl;have x3:=xL 3 _ rfl;have r3:=rL 3 _ rfl;have x4:=xL 4 _ rfl;have r4:=rL 4 _ rfl;have x5:=xL 5 _ rfl;have r5:=rL 5 _ rfl;have x6:=xL 6 _ rfl;have r6:=rL 6 _ rfl;have xf:=sr hx;have rf:=sr hr3;have cJ:=Zbl pL hb3;clear xL rL hx hr3 hb3;have hne:¬ wr.heap.size=w.heap.size+1:=by omega
   have hne2:¬ w.heap.size+1=wr.heap.size:=by omega
   generalize hBx:wr.heap.size=Bx at *;have HDN:=aa pD;have Q8:=aa HD.o;go_wp2;refine eC (v:=.tuple #[.agg #[.string nm,.int .u64 D.id,.int .i64 D.first,.int .i64 D.Gc,.bool D.closed,.bool D.missing,.slice p3 n3 c3],.bool true]) TdU rfl ⟨?_,?_⟩
   ·exact Ta4
   rw [show bH Gb nm=some D from pR Ty.o Q8.o HDN.o];exact ⟨p3,n3,c3,by rw [HDN.o]⟩
  exact Ta8
 obtain rfl:k=Gb.length:=by omega
 have rL:=cr hR;clear r0;obtain ⟨r0,r1,r2,r3,r4,r5,r6⟩:=se rL;have rf:=sr hR;clear rL hR;go_wp2;refine eC (v:=.tuple #[.agg Taj,.bool false]) TdU rfl ⟨?_,?_⟩
 ·have hL:∀ (V:World) (o:Nat) (z:Value),Below w.heap.size w V->Below w.heap.size w (V.setCell ⟨w.heap.size+1,o,none⟩ z):=fun V o z q=>q.setCell (p:=⟨w.heap.size+1,o,none⟩) Tdp z
  exact hL _ _ _ (hL _ _ _ (hL _ _ _ (hL _ _ _ (hL _ _ _ (hL _ _ _ (hL _ _ _ hB))))))
 rw [show bH Gb nm=none from ui Ty.o]
open Go.Maps Go.Shelf
variable {α:Type}{sz:Nat}{ok:Nat->Prop}{w:World}
def uV {α:Type}(V:jx α)(sz:Nat)(ok:Nat->Prop)(l:List α)(w:World)(e:Ending)(w':World):Prop :=
 ∃ v,e=.returned v/\ck V sz (fun b=>ok b\/w.heap.size<=b) w' [v] l/\Below w.heap.size w w'
theorem vB {V:jx α}{v:Value}{l:List α}(h:ck V sz ok w [v] l)(hl:¬ 0<l.length)(ok':Nat->Prop)(w':World):∃ p c,v=.slice p 0 c/\ck V sz ok' w' [v] l:=by
 obtain ⟨p,cap,e,h1,h2,_⟩:=h;obtain rfl:=List.singleton_inj.1 e;have h0:l.length=0:=by omega
 exact ⟨p,cap,by rw [h0],p,cap,rfl,h1,h2,fun h=>absurd h hl⟩
theorem jy {V:jx α}{b:Nat}(h1:∀ u x,V ok w u x->∀ z∈u,z.oneCell'=true):∀ (l:List α) (off:Nat),oh V sz ok w b off l->∃ cs,Flat V sz ok w cs l/\∀ (j:Nat) (z:Value),cs[j]?=some z->w.cell? (b,off+j)=some z
 | [],off,_=>⟨[],rfl,fun j z h=>by simp at h⟩
 | x :: l,off,h=>by
  obtain ⟨u,hu,hv,hc⟩:=h 0 x rfl;obtain ⟨cs,hf,hcs⟩:=jy h1 l (off+sz) (fun i y hy=>by
   obtain ⟨u',hu',hv',hc'⟩:=h (i+1) y TcX;refine ⟨u',hu',hv',fun j z hz=>?_⟩;have:=hc' j z hz;rwa [show off+(i+1)*sz+j=off+sz+i*sz+j from by rw [Oy];omega] at this)
  refine ⟨u++cs,⟨u,cs,rfl,hu,hv,h1 u x hv,hf⟩,fun j z hz=>?_⟩;by_cases hj:j<sz
  ·rw [Fo TcC] at hz;have:=hc j z hz;rwa [Nat.zero_mul,fg] at this
  rw [Cp TcC,hu] at hz;have:=hcs (j - sz) z hz;rwa [show off+sz+(j - sz)=off+j from by omega] at this
theorem qZ {V:jx α}:∀ (l:List α) (cs:List Value),Flat V sz ok w cs l->∀ y∈cs,y.oneCell'=true
 | [],_,hf,y,hy=>by
  simp only [Flat] at hf;subst hf;cases hy
 | _ :: l,_,⟨u,r,e,_,_,h3,h4⟩,y,hy=>by
  rw [e] at hy;rcases List.mem_append.1 hy with hy | hy
  ·exact h3 y hy
  exact qZ l r h4 y hy
theorem mH {V:jx α}(hV:Moves V){bytes:Nat}{ρ:Ren}(L:SlLaysE0.n41 prog ρ){i0:TypeInfo}{z:Value}(hi:prog.info? (ρ.t 23)=some i0)(hz0:i0.zero=some z)(hz1:i0.size=sz)(hz2:i0.bytes=bytes)(hzs:z.cells.size=sz)(hsz:0<sz)
  (hsize:∀ w,(Go.sizeOf (ρ.t 23)).run prog w=.ok sz w) {ok:Nat->Prop} (l:List α) (v:Value) (w:World) (hr:ck V sz ok w [v] l) (h1:∀ u x,V ok w u x->∀ y∈u,y.oneCell'=true) (hlen:l.length<=1000000) (hb:bytes<=1000) (h0:0<l.length) :
  Calls prog (ρ.f 41) #[v] w (uV V sz ok l w):=by
 obtain ⟨p,cap,e,hlc,ij,hp⟩:=hr;obtain rfl:=List.singleton_inj.1 e;obtain ⟨b,off,rfl,cX,gR,hc⟩:=hp h0;obtain ⟨cs,hf,hcs⟩:=jy h1 l off hc;have hl:=Flat.length l cs hf;refine (AnyE.slices_Clone L i0 z sz bytes hi hz0 hz1 hz2 hzs hsz hsize b off l.length cap cs w hl TcN (by have:l.length*bytes<=1000000*1000:=ue hlen hb;omega) hcs ?_).mono ?_
 ·exact qZ l cs hf
 rintro e w' ⟨v',rfl,ho,_,hb'⟩;refine ⟨v',rfl,?_,hb'⟩;have hown:bF V sz (ρ.t 23) w.heap.size ok w' v' l:=⟨cs,ho,Flat.moves hV ⟨hb'.size,fun b hb ho=>⟨ho,hb'.block b hb⟩⟩ _ _ hf⟩;exact hown.rd hV hsz (fun b _ h=>.inl h) (fun b e=>.inr (fh ho b e).1)
theorem Tef {p:Prop}(h:p:=by rw [HN.o];exact ⟨some _,0,rfl,by simp,by omega,fun h=>absurd h (by simp)⟩):p:=h
theorem Tev {p:Prop}(h:p:=by rw [HN.o];exact ck.nil):p:=h
theorem rD (l:List ByteArray)(v:Value)(w:World)(hr:ck aF 1 ok w [v] l)(hlen:l.length<=1000000) :
  Calls prog 65 #[v] w (uV aF 1 ok l w):=by
 by_cases h0:0<l.length
 ·obtain ⟨i0,hi,hz0,hz1,hz2⟩:=cy o5;exact mH aF.moves Tryz.cloneS hi hz0 hz1 hz2 rfl TcF Tryz.sizeOf9 l v w hr (fun u x h y hy=>by obtain rfl:u=_:=h;obtain rfl:=List.mem_singleton.1 hy;rfl) hlen TcF h0
 obtain ⟨p,c,rfl,hr'⟩:=vB hr h0 (fun b=>ok b\/w.heap.size<=b) w;clear hr;have HR:=aa hr';clear hr';have HN:Hid (l=[]):=aa (fX TcC);clear h0 hlen;cases p with
 | none =>
  refine (AnyE.slices_Clone_nil Tryz.cloneS _ _ w).mono ?_;rintro e w' ⟨rfl,rfl⟩;exact ⟨_,rfl,Tev,bj _ _⟩
 | some a =>
  have q22:∀ (w:World) (a:Option Addr) (n c n' c':Nat),(binOp .eql 26 (.slice a n c) (.slice none n' c')).run prog w=.ok (.bool a.isNone) w:=fun w a n c n' c'=>Cl w _ _ a n c n' c' underlying26;go_enter func65,ntmps65;go_wp2;go_ret;exact ⟨.slice (some ⟨w.heap.size,0,none⟩) 0 0,rfl,Tef,(RowKit.Below.refl _ _).alloc (bk _) _⟩
theorem zk (l:List Int)(v:Value)(w:World)(hr:ck cO 1 ok w [v] l)(hlen:l.length<=1000000) :
  Calls prog 158 #[v] w (uV cO 1 ok l w):=by
 by_cases h0:0<l.length
 ·obtain ⟨i0,hi,hz0,hz1,hz2⟩:=cy tZ;exact mH cO.moves Tryz.cloneI hi hz0 hz1 hz2 rfl TcF Tryz.sizeOf3 l v w hr (fun u x h y hy=>by obtain rfl:u=_:=h;obtain rfl:=List.mem_singleton.1 hy;rfl) hlen TcF h0
 obtain ⟨p,c,rfl,hr'⟩:=vB hr h0 (fun b=>ok b\/w.heap.size<=b) w;clear hr;have HR:=aa hr';clear hr';have HN:Hid (l=[]):=aa (fX TcC);clear h0 hlen;cases p with
 | none =>
  refine (AnyE.slices_Clone_nil Tryz.cloneI _ _ w).mono ?_;rintro e w' ⟨rfl,rfl⟩;exact ⟨_,rfl,Tev,bj _ _⟩
 | some a =>
  have q22:∀ (w:World) (a:Option Addr) (n c n' c':Nat),(binOp .eql 22 (.slice a n c) (.slice none n' c')).run prog w=.ok (.bool a.isNone) w:=fun w a n c n' c'=>Cl w _ _ a n c n' c' underlying22;go_enter func158,ntmps158;go_wp2;go_ret;exact ⟨.slice (some ⟨w.heap.size,0,none⟩) 0 0,rfl,Tef,(RowKit.Below.refl _ _).alloc (bk _) _⟩
theorem yS (l:List aR)(v:Value)(w:World)(hr:ck aQ 3 ok w [v] l)(hlen:l.length<=1000000) :
  Calls prog 157 #[v] w (uV aQ 3 ok l w):=by
 by_cases h0:0<l.length
 ·obtain ⟨i0,hi,hz0,hz1,hz2⟩:=cy kL;exact mH aQ.moves Tryz.cloneA hi hz0 hz1 hz2 rfl TcF Tryz.sizeOf53 l v w hr (fun u x h y hy=>by obtain rfl:u=_:=h;simp only [dr,cY,dg] at hy;rcases hy with rfl | rfl | rfl <;> rfl) hlen TcF h0
 obtain ⟨p,c,rfl,hr'⟩:=vB hr h0 (fun b=>ok b\/w.heap.size<=b) w;clear hr;have HR:=aa hr';clear hr';have HN:Hid (l=[]):=aa (fX TcC);clear h0 hlen;cases p with
 | none =>
  refine (AnyE.slices_Clone_nil Tryz.cloneA _ _ w).mono ?_;rintro e w' ⟨rfl,rfl⟩;exact ⟨_,rfl,Tev,bj _ _⟩
 | some a =>
  have q22:∀ (w:World) (a:Option Addr) (n c n' c':Nat),(binOp .eql 49 (.slice a n c) (.slice none n' c')).run prog w=.ok (.bool a.isNone) w:=fun w a n c n' c'=>Cl w _ _ a n c n' c' underlying49;go_enter func157,ntmps157;go_wp2;go_ret;exact ⟨.slice (some ⟨w.heap.size,0,none⟩) 0 0,rfl,Tef,(RowKit.Below.refl _ _).alloc (bk _) _⟩
theorem CO {P:Program}{ops:Array Oper}{Q:Exit->Act->World->Prop}{l:List Oper}{a:Act}(h:Hid (wpList P ops Q l a w)):wpList P ops Q l a w:=h.o
structure qD (v:ay):Prop where
 tags:v.tags.length<=1000000
 Gf:v.Gf.length<=1000000
 seg:∀ s∈v.Gf,s.Ga.length<=1000000/\s.stale.length<=1000000
def D8 (ok:Nat->Prop)(v:ay)(w:World)(u:List Value)(w':World):Prop:=aN (fun b=>ok b\/w.heap.size<=b) w' u v/\Below w.heap.size w w'
def Eu (ok:Nat->Prop)(v:ay)(w:World)(e:Ending)(w':World):Prop:=∃ u,e=.returned (.agg u.toArray)/\D8 ok v w u w'
def QB (ok:Nat->Prop)(L Z:Nat)(sv:Value):Nat->Prop:=fun b=>(ok b/\b<L)\/(Z<=b/\sv.ownBlock≠some b)
theorem Tcb {p:Prop}(h:p:=by
 rw [bw _ _ _ _ hb,bw _ _ _ _ hb,bw _ _ _ _ hb,bw _ _ _ _ hb,bw _ _ _ _ hb,bw _ _ _ _ hb]):p:=h
theorem Ten {p:Prop}(h:p:=by rcases ho with q | q <;> omega):p:=h
theorem pO (v:ay)(u:List Value)(w:World)(hv:aN ok w u v)(hz:qD v) :
  Calls prog 109 #[.agg u.toArray] w (Eu ok v w):=by
 obtain ⟨tv,sv,rfl,ew,fL⟩:=hv;obtain ⟨tp,tc,rfl,_,_⟩:=ew.cap;obtain ⟨sp,sc,rfl,hsc1,hsc2⟩:=fL.cap;have hz1:=hz.tags;have hz2:=hz.Gf;have HZ:=aa hz.seg;clear hz;have HT:=aa ew;clear ew;have HS:=aa fL;clear fL;have hb2:=(ae w (.cells (Taf v tp tc sp sc) 68)).trans ((ae (w.alloc (.cells (Taf v tp tc sp sc) 68)) (.cells Tai 68)).mono (ae w _).size);have h0:((w.alloc (.cells (Taf v tp tc sp sc) 68)).alloc (.cells Tai 68)).heap[w.heap.size]?=some (.cells (Taf v tp tc sp sc) 68 (0,0)):=(cj _ _ _ TcD).trans (b9 w _);have h1:((w.alloc (.cells (Taf v tp tc sp sc) 68)).alloc (.cells Tai 68)).heap[w.heap.size+1]?=some (.cells Tai 68 (0,0)):=by
  have:=b9 (w.alloc (.cells (Taf v tp tc sp sc) 68)) (.cells Tai 68);rw [cW] at this;exact this
 have NV:Hid (((w.alloc (.cells (Taf v tp tc sp sc) 68)).alloc (.cells Tai 68)).heap.size=w.heap.size+2):=aa TcD;have cm:=aa hb2;clear hb2;have H0:=aa h0;clear h0;have H1:=aa h1;clear h1;go_enter func109,ntmps109
 go_wp2_with fail;generalize hW2:World.alloc (World.alloc w _) _=W2 at *;clear hW2;have hz22:W2.heap.size=w.heap.size+2:=NV.o;refine (rD (ok:=fun b=>ok b/\b<w.heap.size) v.tags _ _ ((ck.moves aF.moves).mv ⟨cm.o.size,fun b hb ho=>⟨⟨ho,hb⟩,cm.o.block b hb⟩⟩ HT.o) hz1).mono ?_;rintro e w3 ⟨tv',rfl,Fk,hb3⟩;obtain ⟨tp',tc',rfl,_,_⟩:=Fk.cap;have hl2:w.heap.size+1<W2.heap.size:=aq H1.o;have cJ:=Zbl cm hb3;have hz3:w.heap.size+2<=w3.heap.size:=by have:=hb3.size;omega
 have MX:Hid (ck aF 1 (fun b=>(ok b/\b<w.heap.size)\/(w.heap.size+2<=b/\b<w3.heap.size)) w3 [.slice tp' v.tags.length tc'] v.tags):=aa ((ck.moves aF.moves).mv ⟨bk _,fun b hb ho=>⟨ho.imp id (fun q=>⟨TcC,hb⟩),rfl⟩⟩ Fk);have h03:=(hb3.block _ TcC).trans H0.o;have H13:=aa ((hb3.block _ hl2).trans H1.o);clear hb3 Fk H0 H1 cm HT;have f4:=sr h03;have y4:=cr h03 4 _ rfl;have y5:=cr h03 5 _ rfl;have H03:=aa h03;clear h03;go_upto_region 4 with (fail);clear y4 y5 f4;have F2:=aa (block_setCell (i:=5) (.slice none 0 0) (block_setCell (w:=w3) (i:=4) (.slice tp' v.tags.length tc') H03.o));generalize hW4:World.setCell (World.setCell w3 _ _) _ _=W4 at *;have hk4:∀ k,k≠w.heap.size->W4.heap[k]?=w3.heap[k]?:=fun k hk=>by rw [<- hW4,bw _ _ _ _ hk,bw _ _ _ _ hk]
 have hs4:W4.heap.size=w3.heap.size:=by rw [<- hW4];simp [World.setCell]
 have eI:Hid (Below w.heap.size w W4):=aa (by rw [<- hW4];exact (cJ.o.setCell (p:=⟨w.heap.size,4,none⟩) (bk _) _).setCell (p:=⟨w.heap.size,5,none⟩) (bk _) _);have H14:Hid (W4.heap[w.heap.size+1]?=_):=aa ((hk4 _ TcC).trans H13.o);have Q9:Hid (ck aF 1 (fun b=>(ok b/\b<w.heap.size)\/(w.heap.size+2<=b/\b<w3.heap.size)) W4 [.slice tp' v.tags.length tc'] v.tags):=aa ((ck.moves aF.moves).mv ⟨TcC,fun b hb ho=>⟨ho,hk4 b Ten⟩⟩ MX.o);clear hW4 hk4 MX H13 H03 cJ;generalize hZ:w3.heap.size=Z at *;clear hZ;have Ra:Hid (W4.heap[w.heap.size]?=some (.cells #[.string v.name,.int .u64 v.id,.bool v.hidden,.bool v.ro,.slice tp' v.tags.length tc',.slice none 0 0] 68 (0,0))):=F2;clear F2;go_wp2;go_loopw [15] (fun i wr=>∃ (k:Nat) (sv:Value),k<=v.Gf.length/\i=.int .i64 k/\wr.heap[w.heap.size]?=some (.cells #[.string v.name,.int .u64 v.id,.bool v.hidden,.bool v.ro,.slice tp' v.tags.length tc',sv] 68 (0,0)) /\
   wr.heap[w.heap.size+1]?=some (.cells Tai 68 (0,0))/\bF bC 11 114 Z (QB ok w.heap.size Z sv) wr sv (v.Gf.take k) /\
   ck aF 1 (fun b=>(ok b/\b<w.heap.size)\/(w.heap.size+2<=b/\b<Z)) wr [.slice tp' v.tags.length tc'] v.tags/\Below w.heap.size w wr/\Z<=wr.heap.size) (fun i _=>v.Gf.length - (intOf i).toNat)
 case atStart=>exact ⟨0,_,cg _,rfl,Ra.o,H14.o,⟨[],gS _ _ _ _,rfl⟩,Q9.o,eI.o,TcC⟩
 clear Ra H14 Q9 eI;obtain ⟨k,sv,hk,rfl,PX,Yj,hown,ew,hB,hZ⟩:=hrel;have Fc:=aa PX;clear PX;have Qg:=aa Yj;clear Yj;have HOW:=aa hown;clear hown;have Hx:=aa ew;clear ew;by_cases hlt:k<v.Gf.length
 ·obtain ⟨s,hs⟩:=aj v.Gf k hlt;have hsz:=HZ.o s (ct hs);have hsz1:=hsz.1;have hsz2:=hsz.2;obtain ⟨b,off,us,rfl,gR,cX,ez,eE,hcv⟩:=HS.o.elem hs;obtain ⟨av,Oz,rfl,py,hst⟩:=eE;obtain ⟨ap,ac,rfl,_,_⟩:=py.cap;obtain ⟨eN,eR,rfl,_,_⟩:=hst.cap;have cT:wr.heap[b]?=w.heap[b]?:=hB.block b cX;obtain ⟨q0,q1,q2,q3,q4,q5,q6,q7,q8,q9,q10⟩:=ak5 cT hcv;have HN:=aa (take_snoc' v.Gf k s hs);have ya:=aa py;clear py;have HST:=aa hst;clear hst;clear hcv ez hs cT hsz;go_upto_region 7 with (fail);clear q0 q1 q2 q3 q4 q5 q6 q7 q8 q9 q10;have Yk:=b9 wr (.cells (Tae s ap ac eN eR) 114);have hz5:(wr.alloc (.cells (Tae s ap ac eN eR) 114)).heap.size=wr.heap.size+1:=by simp
  have hk5:=ae wr (.cells (Tae s ap ac eN eR) 114);have ox:=aa Yk;clear Yk;have HK5:=aa hk5;clear hk5;generalize hW5:World.alloc wr _=W5 at *;generalize hBs:wr.heap.size=Bs at *;clear hW5;have hS:∀ w':World,Below W5.heap.size W5 w'->w'.cell? (Tac Bs 3)=some (.slice ap s.Ga.length ac)/\w'.cell? (Tac Bs 5)=some (.slice eN s.stale.length eR):=fun w' hb=>by
   have:=(hb.block _ (aq ox.o)).trans ox.o;exact ⟨cr this _ _ rfl,cr this _ _ rfl⟩
  have Mx:=aa hS;clear hS;refine aL (fun w'=>w'.cell? (Tac Bs 3)=some (.slice ap s.Ga.length ac)/\w'.cell? (Tac Bs 5)=some (.slice eN s.stale.length eR)) 7 [] TcE (Mx.o _ (bj _ _).drew) (fun hHeld=>?_);refine fS 0 hHeld ?_;refine fS 1 hHeld ?_;refine fS 3 hHeld ?_;refine fS 4 hHeld ?_;refine lR 2 fun K hK=>?_;go_simp;have eK:Hid (Below w.heap.size w W5.drew):=aa ((hB.trans (HK5.o.mono (by have:=hB.size;omega))).drew);refine (yS (ok:=fun b=>ok b/\b<w.heap.size) s.Ga _ _ ((ck.moves aQ.moves).mv ⟨eK.o.size,fun b hb ho=>⟨⟨ho,hb⟩,eK.o.block b hb⟩⟩ ya.o) hsz1).mono ?_;rintro e w6 ⟨av',rfl,LB,hb6⟩;obtain ⟨Rb,Rc,rfl,_,_⟩:=LB.cap;have LC:Hid (Below W5.heap.size W5 w6):=aa ⟨hb6.os,hb6.tape,hb6.output,hb6.size,hb6.block⟩;refine hK.o _ _ (Mx.o _ LC.o) ?_;clear hK K hHeld;have hHeld:=Mx.o _ LC.o;refine fS 6 hHeld ?_;refine lR 5 fun K hK=>?_;go_simp;have Tq:Hid (Below w.heap.size w w6):=Zbl eK hb6;refine (zk (ok:=fun b=>ok b/\b<w.heap.size) s.stale _ _ ((ck.moves cO.moves).mv ⟨Tq.o.size,fun b hb ho=>⟨⟨ho,hb⟩,Tq.o.block b hb⟩⟩ HST.o) hsz2).mono ?_;rintro e w7 ⟨aa1,rfl,hst7,hb7⟩;obtain ⟨LD,LG,rfl,_,_⟩:=hst7.cap;have MZ:Hid (Below W5.heap.size W5 w7):=Zbl LC hb7;refine hK.o _ _ (Mx.o _ MZ.o) ?_;clear hK K hHeld;refine aP TcE rfl ?_;simp only [cQ,cL];have OY:=(MZ.o.block _ (aq ox.o)).trans ox.o;have g3:=cr OY 3 _ rfl;have g5:=cr OY 5 _ rfl
  have gf:=sr OY;go_upto_region 8 with (fail);have aa2:Z<=Bs:=by omega
  have hz7:Bs+1<=w7.heap.size:=by have:=MZ.o.size;omega
  have Re:=aa (block_setCell (i:=5) (.slice LD s.stale.length LG) (block_setCell (w:=w7) (i:=3) (.slice Rb s.Ga.length Rc) OY));clear g3 g5 gf OY;generalize hW8:World.setCell (World.setCell w7 _ _) _ _=W8 at *;have hk8:∀ k,k≠Bs->W8.heap[k]?=w7.heap[k]?:=fun k hk=>by rw [<- hW8,bw _ _ _ _ hk,bw _ _ _ _ hk]
  have hs8:W8.heap.size=w7.heap.size:=by rw [<- hW8];simp [World.setCell]
  have hB8:Below Bs wr W8:=by
   rw [<- hW8];exact (((HK5.o.trans (MZ.o.mono TcC)).setCell (p:=⟨Bs,3,none⟩) (bk _) _).setCell (p:=⟨Bs,5,none⟩) (bk _) _)
  have HS8:=aa hs8;clear hW8;have Ix:=aa hB8;clear hB8;have mA:=hB.size;have Vt:Hid (Below w.heap.size w W8):=aa (hB.trans (Ix.o.mono TcC));have Rf:Hid (W8.heap[Bs]?=some (.cells (Tae s Rb Rc LD LG) 114 (0,0))):=Re;clear Re;have gL:=cr Rf.o;obtain ⟨g0,g1,g2,g3,g4,g5,g6,g7,g8,g9,g10⟩:=IC gL;clear gL;have OZ:=aa ((Ix.o.block _ TcC).trans Fc.o);have Vu:=aa ((Ix.o.block _ TcC).trans Qg.o);have b5:=cr OZ.o 5 _ rfl;have b5f:W8.frozen? (Tac w.heap.size 5)=false:=by simp [World.frozen?,OZ.o]
  have aq9:Hid (∀ g,sv.ownBlock=some g->Z<=g/\g<Bs):=aa fun g e=>by
   obtain ⟨cs,ho,_⟩:=HOW.o;have:=fh ho g e;omega
  -- the new element,and the slice so far,in whatever world comes of new blocks
  have Yl:Hid (∀ W:World,Below W8.heap.size W8 W->bC (fun b=>QB ok w.heap.size Z sv b/\b<W8.heap.size) W [.int .i64 s.start,.int .i64 s.length,.int .i64 s.kind,.slice Rb s.Ga.length Rc,.int .i64 s.chunk,.slice LD s.stale.length LG,.string s.log,.string s.pool,.int .i64 s.device,.int .i64 s.mode,.int .i64 s.done] s /\
    bF bC 11 114 Z (fun b=>QB ok w.heap.size Z sv b/\b<W8.heap.size) W sv (v.Gf.take k)):=aa fun W hW=>by
   have k8:∀ b,b<W8.heap.size->W.heap[b]?=W8.heap[b]?:=fun b hb=>hW.block b hb
   have far:∀ b,((ok b/\b<w.heap.size)\/Bs+1<=b)->b<W8.heap.size->(QB ok w.heap.size Z sv b/\b<W8.heap.size)/\b≠Bs:=fun b hb hl=>by
    rcases hb with hb | hb
    ·exact ⟨⟨.inl hb,hl⟩,TcC⟩
    exact ⟨⟨.inr ⟨TcC,fun e=>by have:=aq9.o b e;omega⟩,hl⟩,TcC⟩
   refine ⟨⟨_,_,rfl,(ck.moves aQ.moves).mv ⟨?_,fun b hb ho=>?_⟩ LB,(ck.moves cO.moves).mv ⟨?_,fun b hb ho=>?_⟩ hst7⟩,?_⟩
   ·have:=hb7.size;have:=hW.size;omega
   ·have hl:b<W8.heap.size:=by have:=hb7.size;omega
    obtain ⟨f1,f2⟩:=far b (ho.imp id (fun q=>by have:W5.heap.size<=b:=q;omega)) hl;exact ⟨f1,(k8 b hl).trans ((hk8 b f2).trans (hb7.block b hb))⟩
   ·have:=hW.size;omega
   ·have hl:b<W8.heap.size:=by omega
    obtain ⟨f1,f2⟩:=far b (ho.imp id (fun q=>by have:=hb6.size;have:W5.heap.size<=w6.heap.size:=LC.o.size;omega)) hl;exact ⟨f1,(k8 b hl).trans (hk8 b f2)⟩
   obtain ⟨cs,ho,hf⟩:=HOW.o;have hm:∀ b,b<wr.heap.size->W.heap[b]?=wr.heap[b]?:=fun b hb=>(k8 b TcC).trans (Ix.o.block b TcC);exact ⟨cs,aC ho (fun g e=>hm g (fh ho g e).2),Flat.moves bC.moves ⟨by have:=hW.size;omega,fun b hb h=>⟨⟨h,TcC⟩,hm b hb⟩⟩ _ _ hf⟩
  clear hb6 hb7 LB hst7 HOW;obtain ⟨i0,hi,hz0,hz1',hz2'⟩:=cy Am;have Vv:=aa hi;clear hi;have Qh:=aa hz0;clear hz0;have Qi:=aa hz1';clear hz1';have N2:=aa hz2';clear hz2';have hkl:(v.Gf.take k).length<=1000000:=by rw [ey];omega
  clear hs8;go_wp2_with (at_builtin;refine CO ?_)
  refine aa ?_;refine dX bC.moves underlying66 Vv.o Qh.o Qi.o N2.o rfl TcF TcF rfl _ _ rfl Z (fun b=>QB ok w.heap.size Z sv b/\b<W8.heap.size) sv (v.Gf.take k) s rfl (Yl.o _ (ae _ _)).2 W8.heap.size 1 [.int .i64 s.start,.int .i64 s.length,.int .i64 s.kind,.slice Rb s.Ga.length Rc,.int .i64 s.chunk,.slice LD s.stale.length LG,.string s.log,.string s.pool,.int .i64 s.device,.int .i64 s.mode,.int .i64 s.done] rfl rfl (Yl.o _ (ae _ _)).1 TcQ (fun j y hy=>aD rfl TcX) hkl ?c1 ?c2 ?_
  case c1=>have:=HS8.o;simp;omega
  case c2=>exact fun b e h=>(h.1.elim (fun q=>by have:=aq9.o b e;omega) (fun q=>q.2 e))
  intro gb cap w9 hp;have hg9:=hp.grown;have hz8:=HS8.o;have hz9:W8.heap.size+1<=w9.heap.size:=by have:=hg9.size;simpa using this
  have k9:∀ b,b<W8.heap.size->sv.ownBlock≠some b->w9.heap[b]?=W8.heap[b]?:=fun b hb hn=>(hg9.block b TcH (fun e=>hn e.symm)).trans (cj _ _ _ hb)
  have hgb:Z<=gb/\(sv.ownBlock=some gb\/W8.heap.size<gb):=by
   rcases hp.at' with q | q
   ·exact ⟨(aq9.o gb q).1,.inl q⟩
   exact ⟨by rw [q];simp;omega,.inr (by rw [q];simp)⟩
  have nL:sv.ownBlock≠some w.heap.size:=fun e=>by have:=aq9.o _ e;omega
  have hx9:=(k9 w.heap.size TcC nL).trans OZ.o;have HX9:=aa hx9;have b5:=cr hx9 5 _ rfl;have b5f:w9.frozen? (Tac w.heap.size 5)=false:=by simp [World.frozen?,hx9]
  have hB9:Below w.heap.size w w9:=by
   have:=(Vt.o.alloc TcC (.cells (Tae s Rb Rc LD LG) 114));exact this.grown hg9 TcH (fun g e=>by have:=aq9.o g e;omega)
  have ks:∀ (z:Value) (b:Nat),b≠w.heap.size->(w9.setCell (Tac w.heap.size 5) z).heap[b]?=w9.heap[b]?:=fun z b hb=>bw _ _ _ _ hb;have Vw:(Value.slice (some gb) ((v.Gf.take k).length+1) cap).ownBlock=some gb:=rfl
  have Rg:Hid (∃ (k':Nat) (sv':Value),k'<=v.Gf.length/\Value.int .i64 ((k:Int)+1)=.int .i64 k'/\(w9.setCell (Tac w.heap.size 5) (.slice (some gb) ((v.Gf.take k).length+1) cap)).heap[w.heap.size]?=some (.cells #[.string v.name,.int .u64 v.id,.bool v.hidden,.bool v.ro,.slice tp' v.tags.length tc',sv'] 68 (0,0)) /\
    (w9.setCell (Tac w.heap.size 5) (.slice (some gb) ((v.Gf.take k).length+1) cap)).heap[w.heap.size+1]?=some (.cells Tai 68 (0,0))/\bF bC 11 114 Z (QB ok w.heap.size Z sv') (w9.setCell (Tac w.heap.size 5) (.slice (some gb) ((v.Gf.take k).length+1) cap)) sv' (v.Gf.take k') /\
    ck aF 1 (fun b=>(ok b/\b<w.heap.size)\/(w.heap.size+2<=b/\b<Z)) (w9.setCell (Tac w.heap.size 5) (.slice (some gb) ((v.Gf.take k).length+1) cap)) [.slice tp' v.tags.length tc'] v.tags/\Below w.heap.size w (w9.setCell (Tac w.heap.size 5) (.slice (some gb) ((v.Gf.take k).length+1) cap))/\Z<=(w9.setCell (Tac w.heap.size 5) (.slice (some gb) ((v.Gf.take k).length+1) cap)).heap.size):=aa (by
   have hsz:(w9.setCell (Tac w.heap.size 5) (.slice (some gb) ((v.Gf.take k).length+1) cap)).heap.size=w9.heap.size:=by simp [World.setCell]
   refine ⟨k+1,_,TcC,TcG,block_setCell (i:=5) _ HX9.o,(ks _ _ TcC).trans ((k9 _ TcC (fun e=>by have:=aq9.o _ e;omega)).trans Vu.o),?_,(ck.moves aF.moves).mv ⟨TcC,fun b hb ho=>⟨ho,?_⟩⟩ Hx.o,hB9.setCell (p:=⟨w.heap.size,5,none⟩) (bk _) _,TcC⟩
   ·rw [HN.o];obtain ⟨cs,ho,hf⟩:=hp.own;refine ⟨cs,?_,Flat.moves bC.moves ⟨TcC,fun b hb h=>⟨?_,ks _ b ?_⟩⟩ _ _ hf⟩
    ·exact aC ho (fun g e=>by
      obtain rfl:gb=g:=by injection e
      exact ks _ gb TcC)
    ·rcases h.1 with q | q
     ·exact .inl q
     refine .inr ⟨q.1,fun e=>?_⟩;obtain rfl:gb=b:=by injection e
     rcases hgb.2 with r | r
     ·exact q.2 r
     omega
    rcases h.1 with q | q
    ·omega
    omega
   have hbn:b≠w.heap.size:=by rcases ho with q | q <;> omega
   exact (ks _ b hbn).trans ((k9 b TcC (fun e=>by have:=aq9.o _ e;rcases ho with q | q <;> omega)).trans (Ix.o.block b TcC)))
  rw [show (v.Gf.take k).length=k from by rw [ey];omega] at Rg;clear hp hg9 hx9 k9 ks hgb nL Vw hz8 hz9 hB9;go_wp2;go_roundw;exact Rg.o;simp [intOf];omega
 obtain rfl:k=v.Gf.length:=by omega
 rw [jz (bk _)] at HOW;obtain ⟨Rh,Ri,hsv⟩:∃ p c,sv=.slice p v.Gf.length c:=by
  have:=HOW.o.rd (ok':=fun _=>True) bC.moves TcF (fun _ _ _=>trivial) (fun _ _=>trivial);obtain ⟨p,c,e,_,_⟩:=this.cap;exact ⟨p,c,e⟩
 subst hsv;have yL:=cr Fc.o;have rL:=cr Qg.o;have rf:=sr Qg.o;obtain ⟨y0,y1,y2,y3,y4,y5⟩:=sv6 yL;obtain ⟨r0,r1,r2,r3,r4,r5⟩:=sv6 rL;clear yL rL;have Zw:Hid (∀ wf:World,(∀ b,b≠w.heap.size+1->wf.heap[b]?=wr.heap[b]?)->wf.heap.size=wr.heap.size->Below w.heap.size w wf->D8 ok v w [.string v.name,.int .u64 v.id,.bool v.hidden,.bool v.ro,.slice tp' v.tags.length tc',.slice Rh v.Gf.length Ri] wf):=aa fun wf hk hz hb=>by
  refine ⟨⟨_,_,rfl,(ck.moves aF.moves).mv ⟨TcC,fun b _ ho=>⟨ho.imp (fun q=>q.1) (fun q=>by omega),hk b Ten⟩⟩ Hx.o,?_⟩,hb⟩;obtain ⟨cs,ho,hf⟩:=HOW.o;have hg:∀ g,(Value.slice Rh v.Gf.length Ri).ownBlock=some g->Z<=g:=fun g e=>(fh ho g e).1
  have:bF bC 11 114 Z (fun b=>ok b\/w.heap.size<=b) wf (.slice Rh v.Gf.length Ri) v.Gf :=
   ⟨cs,aC ho (fun g e=>hk g (by have:=hg g e;omega)),Flat.moves bC.moves ⟨TcC,fun b _ h=>⟨h.imp (fun q=>q.1) (fun q=>by omega),hk b (by rcases h with q | q <;> omega)⟩⟩ _ _ hf⟩
  exact this.rd bC.moves TcF (fun _ _ h=>h) (fun g e=>.inr (by have:=hg g e;omega))
 clear HOW Hx Fc Qg;go_wp2;refine eC (v:=.agg (Taf v tp' tc' Rh Ri)) (by simp [results,Tryz.results109,go_sem,r0,r1,r2,r3,r4,r5]) rfl ⟨[.string v.name,.int .u64 v.id,.bool v.hidden,.bool v.ro,.slice tp' v.tags.length tc',.slice Rh v.Gf.length Ri],rfl,Zw.o _ (fun b hb=>?_) ?_ ?_⟩
 ·exact Tcb
 ·simp [World.setCell]
 have hL:∀ (V:World) (o:Nat) (z:Value),Below w.heap.size w V->Below w.heap.size w (V.setCell ⟨w.heap.size+1,o,none⟩ z):=fun V o z q=>q.setCell (p:=⟨w.heap.size+1,o,none⟩) Tdp z
 exact hL _ _ _ (hL _ _ _ (hL _ _ _ (hL _ _ _ (hL _ _ _ (hL _ _ _ hB)))))
end Go.Proofs.YtaagglbgohjldaaGreatDoor
