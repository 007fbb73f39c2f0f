/- Lemmas: ModS, ModT, ModU, ModV, ModW, ModX. -/
import Derived.Test.YtaagglbgohjldaaGreatDoorQv18
import Derived.Laws.EntriesVeiled
import Derived.WideMake
set_option maxRecDepth 100000
set_option maxHeartbeats 32000000
set_option linter.all false
namespace Go.Proofs.YtaagglbgohjldaaGreatDoor
open Go.Proofs.Tryz
open Go.RowKit Go.Maps Go.Shelf
variable {ok:Nat->Prop}
def MJ (s:aB)(i:Nat):ByteArray:=((s.Ga[i]?).getD ⟨false,⟨#[]⟩,0⟩).on
def BZ (g:af)(s:aB):Int:=(s.length*g.Gd+s.chunk - 1) / s.chunk
def Fe (g:af)(s:aB):Bool:=s.log.toList.isEmpty||decide (1+(BZ g s+64 - 1) / 64<=dO g s.log*g.Gd)
def ER (g:af)(s:aB):Bool:=decide (s.length / ((s.Ga.length:Int) - 1)*g.Gd+16<=dO g (MJ s 0)*g.Gd)
def CX (g:af)(s:aB):Bool :=
 if s.kind=3 then s.Ga.all (fun a=>dO g a.on == s.length)&&Fe g s
 else if s.kind=4 then s.Ga.all (fun a=>dO g a.on == dO g (MJ s 0))&&ER g s
 else if s.kind=5 then dO g (MJ s 1) == s.length
 else if s.kind=7 then dO g (MJ s 0) == s.length else true
def xh (g:af)(s:aB):Int:=if CX g s then 0 else 3
structure Ah (s:aB):Prop where
 fm:wM s
 c3:s.kind=3->1<=s.chunk/\s.chunk<=1024
 a4:s.kind=4->3<=s.Ga.length
def Cu (g:af):Prop:=∀ nm,0<=dO g nm/\dO g nm<=10000000
theorem tN (n d:Int)(w:World)(h0:0<=n)(h1:n<=1000000000000)(h2:1<=d)(h3:d<=1000000) :
  Calls prog 153 #[.int .i64 n,.int .i64 d] w fun e w'=>e=.returned (.int .i64 ((n+d - 1) / d))/\Below w.heap.size w w' :=
 (CV n d w h0 h1 h2 h3).mono fun _ _ ⟨h,e⟩=>⟨h,e ▸ bj _ _⟩
theorem TcU {p:Prop}(h:p:=by rw [HE.o];rfl):p:=h
theorem Ta1 {p:Prop}(h:p:=by
 (refine aU TcE TcE ?_;(repeat (go_big_quiet_step ((go_at_call 150;exact iH (HLE.o _ _)))));(with_reducible refine fR ?_);intro wq ia;have kq:=dY ia;clear ia)
 have fy:=Zbl cm kq;clear kq el0 es1 es3 eq1;generalize (dO g r.on == s.length)=x at *;rw [ox.o] at HE
 cases x with
 | true =>
  go_wp2;go_ret;exact ⟨cz TcU,fy.o⟩
 | false =>
  go_wp2;go_ret;exact ⟨cz TcU,fy.o⟩):p:=h
theorem TeN {p:Prop}(h:p:=by rw [take_snoc' s.Ga k r hr,List.all_append];simp):p:=h
theorem zb (g:af)(a:bN)(bc Bc Bl:Nat)(v:ay)(s:aB)(u1 u2:List Value)(w:World)(kB:gY w bc g a)(hcc:w.cell? Bc=some (.pointer (some bc)))(Hh:Bc<w.heap.size)
  (hll:w.cell? Bl=some (.func (.func 150) #[] #[.pointer (some Bc)])) (hbl:Bl<w.heap.size) (hg:dN ok w g a) (hz:JT g) (Li:Cu g) (hx:1<=g.Gd/\g.Gd<=1024)
  (hv:aN ok w u1 v) (hs:bC ok w u2 s) (hf:Ah s) :
  Calls prog 152 #[.agg u1.toArray,.agg u2.toArray,.pointer (some Bl),.pointer (some Bc)] w fun e w'=>e=.returned (.int .i64 (xh g s))/\Below w.heap.size w w':=by
 have jt:=kB.lt;obtain ⟨tv,sv,rfl,ew,fL⟩:=hv;obtain ⟨tp,tc,rfl,_,_⟩:=ew.cap;obtain ⟨sp,sc,rfl,_,_⟩:=fL.cap;obtain ⟨av,Oz,rfl,py,hst⟩:=hs;obtain ⟨ap,ac,rfl,aq0,aq1⟩:=py.cap;obtain ⟨eN,eR,rfl,hsc1,hsc2⟩:=hst.cap;have ya:=aa py;clear ew fL py hst;have I3:=aa kB;obtain ⟨sm,hblk,_⟩:=kB;have nw:Hid (bX w bc sm g a):=aa hblk;clear hblk;have HG:=aa hg;clear hg;have HZ:=aa hz;clear hz;have O6:=aa hf;have hl0:=hf.fm.l0;have hl1:=hf.fm.l1;have LB:=hf.fm.ar;clear hf;have Qc:=aa Li;clear Li;have HX:=aa hx;clear hx;have HCC:=aa hcc;have HLL:=aa hll;have hb2:=(ae w (.cells (Taf v tp tc sp sc) 68)).trans ((ae (w.alloc (.cells (Taf v tp tc sp sc) 68)) (.cells (Tae s ap ac eN eR) 114)).mono (ae w _).size);have h1:((w.alloc (.cells (Taf v tp tc sp sc) 68)).alloc (.cells (Tae s ap ac eN eR) 114)).heap[w.heap.size+1]?=some (.cells (Tae s ap ac eN eR) 114 (0,0)):=by
  exact TbQ
 have cm:=aa hb2;clear hb2;have H1:=aa h1;clear h1;have LI:∀ wr:World,wr.heap[w.heap.size+1]?=some (.cells (Tae s ap ac eN eR) 114 (0,0))->∀ (j:Nat) (z:Value),[.int .i64 s.start,.int .i64 s.length,.int .i64 s.kind,.slice ap s.Ga.length ac,.int .i64 s.chunk,.slice eN s.stale.length eR,.string s.log,.string s.pool,.int .i64 s.device,.int .i64 s.mode,.int .i64 s.done][j]?=some z->wr.cell? ⟨w.heap.size+1,j,none⟩=some z:=fun wr h j z hz=>by
  exact Tcm
 have SL:=aa LI;clear LI;have Ys:∀ (wr:World) (nm:ByteArray),Below w.heap.size w wr->Calls prog 150 #[.string nm,.pointer (some Bc)] wr fun e w'=>e=.returned (.int .i64 (dO g nm))/\Below wr.heap.size wr w':=fun wr nm hB =>
  yC (ok:=ok) g a bc Bc nm wr (I3.o.below hB) ((hB.cell Hh).trans HCC.o) (HG.o.mv (Mv.of hB)) HZ.o
 have HLEN:=aa Ys;clear Ys hcc hll;have HE:Hid (xh g s=_):=aa (xh.eq_1 g s);have ox:Hid (CX g s=_):=aa (CX.eq_1 g s);go_enter func152,ntmps152
 go_upto_region 2 with (fail);generalize hW2:World.alloc (World.alloc w _) _=W2 at *;clear hW2;have s2:=SL.o W2 H1.o 2 _ rfl;by_cases h3:s.kind=3
 ·have h3b:(s.kind == 3)=true:=by simpa using h3
  rw [aw h3] at ox;have hn:=O6.o.c3 h3;clear h3;have HMB:Hid (Fe g s=_):=aa (Fe.eq_1 g s);have hn1:=hn.1;have hn2:=hn.2;clear hn;have s3:=SL.o W2 H1.o 3 _ rfl;go_upto_region 5 with (fail);clear s2 s3;go_loopw [20,7] (fun i x wr=>∃ k:Nat,k<=s.Ga.length/\i=.int .i64 k/\x=.bool ((s.Ga.take k).all (fun a=>dO g a.on == s.length))/\Below w.heap.size w wr/\wr.heap[w.heap.size+1]?=some (.cells (Tae s ap ac eN eR) 114 (0,0))) (fun i _ _=>s.Ga.length - (intOf i).toNat)
  exact ⟨0,cg _,rfl,rfl,cm.o,H1.o⟩;clear cm H1;obtain ⟨k,hk,rfl,rfl,hB,hx1⟩:=hrel;have H1:=aa hx1;clear hx1;by_cases hlt:k<s.Ga.length
  ·obtain ⟨r,hr⟩:=aj s.Ga k hlt;obtain ⟨b,off,us,rfl,_,cX,TE,Tv,hcv'⟩:=ya.o.elem hr;obtain rfl:us=_:=Tv;have cT:wr.heap[b]?=w.heap[b]?:=hB.block b cX;have q0:=(cd (a:=⟨b,off+k*3,none⟩) cT).trans (hcv' 0 _ rfl);have q1:=(cd (a:=⟨b,off+k*3+1,none⟩) cT).trans (hcv' 1 _ rfl);have q2:=(cd (a:=⟨b,off+k*3+2,none⟩) cT).trans (hcv' 2 _ rfl);have cE:Hid ((s.Ga.take (k+1)).all (fun a=>dO g a.on == s.length)=((s.Ga.take k).all (fun a=>dO g a.on == s.length)&&(dO g r.on == s.length))):=aa TeN;clear hcv' TE cT hr;have hA:=ae wr (.cells (Tau r) 53);have pL:=aa (b9 wr (.cells (Tau r) 53));have cU:=aa (hB.trans (hA.mono hB.size));have H11:=Zbk hA H1;clear hA;generalize (s.Ga.take k).all (fun a=>dO g a.on == s.length)=x at *;go_upto_region 7 with (fail);generalize hW3:World.alloc wr _=W3 at *;generalize hB3:wr.heap.size=Ba at *;clear hW3 hB3 hB q0 q1 q2 H1;cases x with
   | true =>
    have a1:=cr pL.o 1 _ rfl;have s1:=cr H11.o 1 _ rfl;have l0:=(cU.o.cell (p:=Bl) hbl).trans HLL.o;have el0:=aG (cP W3 _ l0) l0;have es1:=aG (cP W3 _ s1) s1;have VI:=aG (cP W3 _ a1) a1;have HLE:Hid (∀ (p:fo) nm,Calls prog 150 #[.string nm,.pointer (some Bc)] (ext W3 p) fun e w'=>e=.returned (.int .i64 (dO g nm))/\Below (ext W3 p).heap.size (ext W3 p) w'):=aa fun p nm=>HLEN.o _ nm (mn cU.o (dQ W3 p))
    (refine aU TcE TcE ?_;(repeat (go_big_quiet_step ((go_at_call 150;exact iH (HLE.o _ _)))));(with_reducible refine fR ?_);intro wq ia;have kq:=dY ia;clear ia)
    have fy:=Zbl cU kq;have O7:=Zbk kq H11;clear kq el0 es1 VI a1 s1 l0;go_wp2;go_roundw;exact ⟨k+1,TcC,TcG,Tdz,fy.o,O7.o⟩;simp [intOf];omega
   | false =>
    go_quiet (fail);go_wp2;go_roundw
    exact ⟨k+1,TcC,TcG,Tdz,aT cU.o _,H11.o⟩;simp [intOf];omega
  obtain rfl:k=s.Ga.length:=by omega
  rw [cI];generalize s.Ga.all (fun a=>dO g a.on == s.length)=x at *;rw [HMB.o] at ox;have s1:=cr H1.o 1 _ rfl;have s4:=cr H1.o 4 _ rfl;have cB:=(hB.cell (p:=Bc) Hh).trans HCC.o;obtain ⟨-,-,-,g3,-,-,-,-,-⟩:=bX.cells (sm:=sm) ((hB.block bc jt).trans nw.o);have es1:=aG (cP wr _ s1) s1;have es4:=aG (cP wr _ s4) s4;have Rs:=aG (cP wr _ cB) cB;have eg3:=aG (cP wr _ g3) g3;have x1:=HX.o.1;have x2:=HX.o.2;have m0:0<=s.length*g.Gd:=oA TcC TcC;have m1:s.length*g.Gd<=32768*1024:=tW hl1 x2 TcC TcC;have w1:IntKind.i64.wrap (s.length*g.Gd)=s.length*g.Gd:=dy _ TcC;have r0:0<=BZ g s:=lz TcC TcC;have r1:BZ g s<=s.length*g.Gd+s.chunk - 1:=mS _ TcC;have Yt:Hid (BZ g s=_):=aa (BZ.eq_1 g s);go_upto_region 9 with (fail);(refine aU TcE TcE ?_;(repeat (go_big_quiet_step ((go_at_call 153;exact iH (tN _ _ _ TcC TcC TcC TcC)))));(with_reducible refine fR ?_);intro wq ia;have kq:=dY ia;clear ia)
  have fy:=aa (hB.trans (kq.mono hB.size));have O7:=Zbk kq H1;clear kq es1 es4 Rs eg3 s1 s4 cB g3 w1;rw [<- Yt.o];generalize BZ g s=R at *;clear Yt;go_upto_region 10 with (fail)
  cases x with
  | false =>
   rw [ox.o] at HE;go_quiet (fail);go_wp2;go_ret;exact ⟨cz TcU,aT fy.o _⟩
  | true =>
   have s6:=cr O7.o 6 _ rfl;by_cases hle:s.log.toList.isEmpty=true
   ·rw [hle] at ox;rw [ox.o] at HE;go_quiet (fail);go_wp2;go_ret;exact ⟨cz TcU,aT fy.o _⟩
   have hle':s.log.toList.isEmpty=false:=by simpa using hle
   rw [hle'] at ox;clear hle;have l0:=(fy.o.cell (p:=Bl) hbl).trans HLL.o;have cB:=(fy.o.cell (p:=Bc) Hh).trans HCC.o;obtain ⟨-,-,-,g3,-,-,-,-,-⟩:=bX.cells (sm:=sm) ((fy.o.block bc jt).trans nw.o);have el0:=aG (cP wq _ l0) l0;have es6:=aG (cP wq _ s6) s6;have Rs:=aG (cP wq _ cB) cB;have eg3:=aG (cP wq _ g3) g3;have lb:=Qc.o s.log;have lb0:=lb.1;have lb1:=lb.2;have HLE:Hid (∀ (p:fo),Calls prog 150 #[.string s.log,.pointer (some Bc)] (ext wq p) fun e w'=>e=.returned (.int .i64 (dO g s.log))/\Below (ext wq p).heap.size (ext wq p) w'):=aa fun p=>HLEN.o _ _ (mn fy.o (dQ wq p));generalize dO g s.log=L at *;have v0:0<=L*g.Gd:=oA lb0 TcC;have v1:L*g.Gd<=10000000*1024:=tW lb1 x2 TcC TcC;have w1:IntKind.i64.wrap (L*g.Gd)=L*g.Gd:=dy _ TcC;have y0:0<=(R+64 - 1) / 64:=lz TcC TcC;have y1:(R+64 - 1) / 64<=R+64 - 1:=mS _ TcC;have w2:IntKind.i64.wrap (1+(R+64 - 1) / 64)=1+(R+64 - 1) / 64:=dy _ TcC
   (refine aU TcE TcE ?_;(repeat (go_big_quiet_step ((first | (go_at_call 153;exact iH (tN _ _ _ TcC TcC TcC TcC)) | (go_at_call 150;exact iH (HLE.o _))))));(with_reducible refine fR ?_);intro wq ia;have kq:=dY ia;clear ia)
   have Fc:=Zbl fy kq;clear kq el0 es6 Rs eg3 l0 cB g3 s6 w1 w2;rw [ox.o] at HE;generalize 1+(R+64 - 1) / 64=X at *;generalize L*g.Gd=Y at *;by_cases hc:X<=Y
   ·rw [eA hc] at HE;go_wp2;go_ret;exact ⟨cz TcU,Fc.o⟩
   rw [cN hc] at HE;go_wp2;go_ret;exact ⟨cz TcU,Fc.o⟩
 have h3b:(s.kind == 3)=false:=by simpa using h3
 rw [bh h3] at ox;clear h3;by_cases h4:s.kind=4
 ·have h4b:(s.kind == 4)=true:=by simpa using h4
  rw [aw h4] at ox;have hn:=O6.o.a4 h4;clear h4;obtain ⟨r0,hr0⟩:=aj s.Ga 0 TcC;have ho:MJ s 0=r0.on:=by simp [MJ,hr0]
  rw [ho] at ox;have Kp:Hid (ER g s=_):=aa (ER.eq_1 g s);rw [ho] at Kp;obtain ⟨b,off,us,rfl,_,cX,ez,eE,hcv⟩:=ya.o.elem hr0;obtain rfl:us=_:=eE;have Z1:=aa (hcv 1 _ rfl);clear hcv ez hr0 ho;have s3:=SL.o W2 H1.o 3 _ rfl;go_upto_region 13 with (fail);clear s2 s3;go_loopw [73,7] (fun i x wr=>∃ k:Nat,k<=s.Ga.length/\i=.int .i64 k/\x=.bool ((s.Ga.take k).all (fun a=>dO g a.on == dO g r0.on))/\Below w.heap.size w wr/\wr.heap[w.heap.size+1]?=some (.cells (Tae s (some ⟨b,off,none⟩) ac eN eR) 114 (0,0))) (fun i _ _=>s.Ga.length - (intOf i).toNat)
  exact ⟨0,cg _,rfl,rfl,cm.o,H1.o⟩;clear cm H1;obtain ⟨k,hk,rfl,rfl,hB,hx1⟩:=hrel;have H1:=aa hx1;clear hx1;by_cases hlt:k<s.Ga.length
  ·obtain ⟨r,hr⟩:=aj s.Ga k hlt;obtain ⟨b',off',us',e',_,ak8,TE,Tv,hcv'⟩:=ya.o.elem hr;injection e' with e';injection e' with eb eo;subst eb;subst eo;obtain rfl:us'=_:=Tv;have cT:wr.heap[b]?=w.heap[b]?:=hB.block b cX;have q0:=(cd (a:=⟨b,off+k*3,none⟩) cT).trans (hcv' 0 _ rfl);have q1:=(cd (a:=⟨b,off+k*3+1,none⟩) cT).trans (hcv' 1 _ rfl);have q2:=(cd (a:=⟨b,off+k*3+2,none⟩) cT).trans (hcv' 2 _ rfl);have cE:Hid ((s.Ga.take (k+1)).all (fun a=>dO g a.on == dO g r0.on)=((s.Ga.take k).all (fun a=>dO g a.on == dO g r0.on)&&(dO g r.on == dO g r0.on))):=aa TeN;clear hcv' TE cT ak8 hr;have hA:=ae wr (.cells (Tau r) 53);have pL:=aa (b9 wr (.cells (Tau r) 53));have cU:=aa (hB.trans (hA.mono hB.size));have H11:=Zbk hA H1;clear hA;generalize (s.Ga.take k).all (fun a=>dO g a.on == dO g r0.on)=x at *;go_upto_region 15 with (fail);generalize hW3:World.alloc wr _=W3 at *;generalize hB3:wr.heap.size=Ba at *;clear hW3 hB3 hB q0 q1 q2 H1;cases x with
   | true =>
    have a1:=cr pL.o 1 _ rfl;have s3:=cr H11.o 3 _ rfl;have l0:=(cU.o.cell (p:=Bl) hbl).trans HLL.o;have z1:=(cU.o.cell (p:=⟨b,off+0*3+1,none⟩) cX).trans Z1.o;have el0:=aG (cP W3 _ l0) l0;have es3:=aG (cP W3 _ s3) s3;have VI:=aG (cP W3 _ a1) a1;have VJ:=aG (cP W3 _ z1) z1;have HLE:Hid (∀ (p:fo) nm,Calls prog 150 #[.string nm,.pointer (some Bc)] (ext W3 p) fun e w'=>e=.returned (.int .i64 (dO g nm))/\Below (ext W3 p).heap.size (ext W3 p) w'):=aa fun p nm=>HLEN.o _ nm (mn cU.o (dQ W3 p))
    (refine aU TcE TcE ?_;(repeat (go_big_quiet_step ((go_at_call 150;exact iH (HLE.o _ _)))));(with_reducible refine fR ?_);intro wq ia;have kq:=dY ia;clear ia)
    have fy:=Zbl cU kq;have O7:=Zbk kq H11;clear kq el0 es3 VI VJ a1 s3 l0 z1;go_wp2;go_roundw;exact ⟨k+1,TcC,TcG,Tdz,fy.o,O7.o⟩;simp [intOf];omega
   | false =>
    go_quiet (fail);go_wp2;go_roundw
    exact ⟨k+1,TcC,TcG,Tdz,aT cU.o _,H11.o⟩;simp [intOf];omega
  obtain rfl:k=s.Ga.length:=by omega
  rw [cI];generalize s.Ga.all (fun a=>dO g a.on == dO g r0.on)=x at *;rw [Kp.o] at ox;cases x with
  | true =>
   have s1:=cr H1.o 1 _ rfl;have s3:=cr H1.o 3 _ rfl;have l0:=(hB.cell (p:=Bl) hbl).trans HLL.o;have cB:=(hB.cell (p:=Bc) Hh).trans HCC.o;have z1:=(hB.cell (p:=⟨b,off+0*3+1,none⟩) cX).trans Z1.o;obtain ⟨-,-,-,g3,-,-,-,-,-⟩:=bX.cells (sm:=sm) ((hB.block bc jt).trans nw.o);have el0:=aG (cP wr _ l0) l0;have es1:=aG (cP wr _ s1) s1;have es3:=aG (cP wr _ s3) s3;have Rs:=aG (cP wr _ cB) cB;have eg3:=aG (cP wr _ g3) g3;have VJ:=aG (cP wr _ z1) z1;have HLE:Hid (∀ (p:fo) nm,Calls prog 150 #[.string nm,.pointer (some Bc)] (ext wr p) fun e w'=>e=.returned (.int .i64 (dO g nm))/\Below (ext wr p).heap.size (ext wr p) w'):=aa fun p nm=>HLEN.o _ nm (mn hB (dQ wr p));have lb:=Qc.o r0.on;have lb0:=lb.1;have lb1:=lb.2;have x1:=HX.o.1;have x2:=HX.o.2;generalize hL:dO g r0.on=L at *;have m0:0<=L*g.Gd:=oA lb0 TcC;have m1:L*g.Gd<=10000000*1024:=tW lb1 x2 TcC TcC;have w1:IntKind.i64.wrap (L*g.Gd)=L*g.Gd:=dy _ TcC;have w2:IntKind.i64.wrap ((s.Ga.length:Int) - 1)=(s.Ga.length:Int) - 1:=dy _ TcC;have n0:(((s.Ga.length:Int) - 1) == 0)=false:=by simp;omega
   have d0:s.length.tdiv ((s.Ga.length:Int) - 1)=s.length / ((s.Ga.length:Int) - 1):=CC TcC;have d1:0<=s.length / ((s.Ga.length:Int) - 1):=lz TcC TcC;have d2:s.length / ((s.Ga.length:Int) - 1)<=s.length:=mS _ TcC;generalize s.length / ((s.Ga.length:Int) - 1)=D at *;have w3:IntKind.i64.wrap D=D:=dy _ TcC;have m2:0<=D*g.Gd:=oA d1 TcC;have m3:D*g.Gd<=32768*1024:=tW TcC x2 TcC TcC;have w4:IntKind.i64.wrap (D*g.Gd)=D*g.Gd:=dy _ TcC;have w5:IntKind.i64.wrap (D*g.Gd+16)=D*g.Gd+16:=dy _ TcC;have VK:Hid (∀ (p:fo),Calls prog 150 #[.string r0.on,.pointer (some Bc)] (ext wr p) fun e w'=>e=.returned (.int .i64 L)/\Below (ext wr p).heap.size (ext wr p) w'):=aa fun p=>by rw [<- hL];exact HLE.o p _
   clear HLE;go_upto_region 17 with (fail);(refine aU TcE TcE ?_;(repeat (go_big_quiet_step ((go_at_call 150;exact iH (VK.o _)))));(with_reducible refine fR ?_);intro wq ia;have kq:=dY ia;clear ia)
   have fy:=aa (hB.trans (kq.mono hB.size));clear kq el0 es1 es3 Rs eg3 VJ s1 s3 l0 cB z1 g3 w1 w2 w3 w4 w5 d0 n0;generalize D*g.Gd=X at *;generalize L*g.Gd=Y at *;rw [ox.o] at HE;by_cases hc:X+16<=Y
   ·rw [eA hc] at HE;go_wp2;go_ret;exact ⟨cz TcU,fy.o⟩
   rw [cN hc] at HE;go_wp2;go_ret;exact ⟨cz TcU,fy.o⟩
  | false =>
   rw [ox.o] at HE;go_upto_region 17 with (fail);go_quiet (fail);go_wp2;go_ret;exact ⟨cz TcU,aT hB _⟩
 have h4b:(s.kind == 4)=false:=by simpa using h4
 rw [bh h4] at ox;clear h4;by_cases h5:s.kind=5
 ·have h5b:(s.kind == 5)=true:=by simpa using h5
  rw [aw h5] at ox;have hn:=O6.o.fm.p5 h5;obtain ⟨r,hr⟩:=aj s.Ga 1 TcC;have ho:MJ s 1=r.on:=by simp [MJ,hr]
  rw [ho] at ox;obtain ⟨b,off,us,rfl,_,cX,ez,eE,hcv⟩:=ya.o.elem hr;obtain rfl:us=_:=eE;have q1:=(cm.o.cell (p:=⟨b,off+1*3+1,none⟩) cX).trans (hcv 1 _ rfl);have s1:=SL.o W2 H1.o 1 _ rfl;have s3:=SL.o W2 H1.o 3 _ rfl;have l0:=(cm.o.cell (p:=Bl) hbl).trans HLL.o;have el0:=aG (cP W2 _ l0) l0;have es1:=aG (cP W2 _ s1) s1;have es3:=aG (cP W2 _ s3) s3;have eq1:=aG (cP W2 _ q1) q1;have HLE:Hid (∀ (p:fo) nm,Calls prog 150 #[.string nm,.pointer (some Bc)] (ext W2 p) fun e w'=>e=.returned (.int .i64 (dO g nm))/\Below (ext W2 p).heap.size (ext W2 p) w'):=aa fun p nm=>HLEN.o _ nm (mn cm.o (dQ W2 p));clear hcv ez hr ho cX
  go_upto_region 19 with (fail);exact Ta1
 have h5b:(s.kind == 5)=false:=by simpa using h5
 rw [bh h5] at ox;clear h5;by_cases h7:s.kind=7
 ·have OY:(s.kind == 7)=true:=by simpa using h7
  rw [aw h7] at ox;have hn:=O6.o.fm.p7 h7;obtain ⟨r,hr⟩:=aj s.Ga 0 TcC;have ho:MJ s 0=r.on:=by simp [MJ,hr]
  rw [ho] at ox;obtain ⟨b,off,us,rfl,_,cX,ez,eE,hcv⟩:=ya.o.elem hr;obtain rfl:us=_:=eE;have q1:=(cm.o.cell (p:=⟨b,off+0*3+1,none⟩) cX).trans (hcv 1 _ rfl);have s1:=SL.o W2 H1.o 1 _ rfl;have s3:=SL.o W2 H1.o 3 _ rfl;have l0:=(cm.o.cell (p:=Bl) hbl).trans HLL.o;have el0:=aG (cP W2 _ l0) l0;have es1:=aG (cP W2 _ s1) s1;have es3:=aG (cP W2 _ s3) s3;have eq1:=aG (cP W2 _ q1) q1;have HLE:Hid (∀ (p:fo) nm,Calls prog 150 #[.string nm,.pointer (some Bc)] (ext W2 p) fun e w'=>e=.returned (.int .i64 (dO g nm))/\Below (ext W2 p).heap.size (ext W2 p) w'):=aa fun p nm=>HLEN.o _ nm (mn cm.o (dQ W2 p));clear hcv ez hr ho cX
  go_upto_region 21 with (fail);exact Ta1
 have OY:(s.kind == 7)=false:=by simpa using h7
 rw [bh h7] at ox;rw [ox.o] at HE;clear h7;go_wp2;go_ret;exact ⟨cz TcU,cm.o⟩
def qG (g:af):ByteArray × Int:=bD (fun _ _ s=>xh g s) [] (aA g.F9)
theorem BS (g:af)(a:bN)(bc:Nat)(w:World)(kB:gY w bc g a)(hg:dN ok w g a)(hf:UQ g)(Li:Cu g)(Ud:∀ v∈g.F9,∀ s∈v.Gf,Ah s) :
  Calls prog 106 #[.pointer (some bc)] w (Aw (qG g) w):=by
 have hA:=ae w (.cells #[.pointer (some bc)] 152);have hB:=b9 w (.cells #[.pointer (some bc)] 152);have hA2:=ae (w.alloc (.cells #[.pointer (some bc)] 152)) (.cells #[.func (.func 150) #[] #[.pointer (some w.heap.size)]] 200);have HL:=aa (b9 (w.alloc (.cells #[.pointer (some bc)] 152)) (.cells #[.func (.func 150) #[] #[.pointer (some w.heap.size)]] 200));have HB:=aa ((hA2.block _ (aq hB)).trans hB);have HA:=aa (hA.trans (hA2.mono hA.size));clear hA hA2 hB;have I3:=aa (kB.below HA.o);have HG:=aa (hg.mv (Mv.of HA.o));have HF:=aa hf;have Qc:=aa Li;have Mx:=aa Ud;clear kB hg hf Li Ud;go_enter func106,ntmps106
 go_wp2_with fail;generalize hW1:World.alloc (World.alloc w _) _=W1 at *;rw [cW] at HL;have hne:w.heap.size<w.heap.size+1:=Nat.lt_succ_self _;generalize hBl:w.heap.size+1=Bl at *;generalize Uc:w.heap.size=Bc at *;clear hW1;refine (wE (ok:=ok) (F:=fun _=>False) 152 [.pointer (some Bl),.pointer (some Bc)] (fun l W=>by go_simp) g a bc (fun _ _ s=>xh g s) (fun _ _=>True) W1 I3.o HG.o HF.o.sz (fun _ f=>f.elim) (fun _ _ _ _ _=>trivial) trivial ?_).mono ?_
 ·intro pre v s post hp W u1 u2 hm _ hv hs;obtain ⟨m1,m2⟩:=jZ hp;have hb:=hm.none;refine (zb (ok:=ok) g a bc Bc Bl v s u1 u2 W (I3.o.below hb) ((hb.cell (p:=Bc) (aq HB.o)).trans (by simp [World.cell?,HB.o])) (cC (aq HB.o) hb.size) ((hb.cell (p:=Bl) (aq HL.o)).trans (by simp [World.cell?,HL.o])) (cC (aq HL.o) hb.size) (HG.o.mv (Mv.of hb)) HF.o.sz Qc.o HF.o.ext hv hs (Mx.o v m1 s m2)).mono ?_;rintro e W' ⟨rfl,hb'⟩;exact ⟨rfl,cR.of_below hb',fun _=>trivial⟩
 rintro e w2 ⟨rfl,hm,_⟩;have HM:=aa hm;clear hm;have HR:Hid (qG g=_):=aa (qG.eq_1 g);exact Tb9
def Jd (w:World)(b off:Nat)(l:List Bool):Prop:=∀ (i:Nat) (x:Bool),l[i]?=some x->w.cell? (b,off+i)=some (.bool x)
theorem sJ (l:List Bool)(b off cap:Nat)(w:World)(h:Jd w b off l)(hb:b<w.heap.size)(hl:l.length<=1000000) :
  Calls prog 185 #[.slice (some (b,off)) l.length cap,.bool true] w fun e w'=>(∃ r:Int,e=.returned (.int .i64 r)/\decide (0<=r)=l.any id)/\Below w.heap.size w w':=by
 have HH:=aa h;clear h;go_enter func185,ntmps185;go_wp2
 go_loopw [8,5] (fun i _ wr=>∃ k:Nat,k<=l.length/\i=.int .i64 k/\Below w.heap.size w wr/\(l.take k).any id=false) (fun i _ _=>l.length - (intOf i).toNat)
 exact ⟨0,cg _,rfl,bj _ _,rfl⟩;obtain ⟨k,hk,rfl,hB,hall⟩:=hrel;have cE:=aa hall;clear hall;by_cases hlt:k<l.length
 ·obtain ⟨x,hx⟩:=aj l k hlt;have q0:=(hB.cell (p:=⟨b,off+k,none⟩) hb).trans (HH.o k x hx);have ap1:Hid ((l.take (k+1)).any id=x):=aa Teh;have AE:Hid (x=true->l.any id=true):=aa fun h=>List.any_eq_true.2 ⟨x,ct hx,h⟩;clear hx cE;cases x with
  | true =>
   have E3:=aa (AE.o rfl);go_wp2;go_ret;exact ⟨⟨k,rfl,by rw [E3.o];simp⟩,hB⟩
  | false =>
   have E3:=aa ap1.o;go_wp2;go_roundw;exact ⟨k+1,TcC,TcG,hB,E3.o⟩;simp [intOf];omega
 exact TbU
theorem oC (l:List Bool)(b off cap:Nat)(w:World)(h:Jd w b off l)(hb:b<w.heap.size)(hl:l.length<=1000000) :
  Calls prog 155 #[.slice (some (b,off)) l.length cap,.bool true] w fun e w'=>e=.returned (.bool (l.any id))/\Below w.heap.size w w':=by
 go_enter func155,ntmps155
 go_wp2_with fail;refine (sJ l b off cap w h hb hl).mono ?_;exact TbF
section
open Go Go.Maps Go.MapKept Go.ChangeMaps
variable {P:Program}{k:TypeId}{w w':World}{b n:Nat}{f:Value->Option Value}
end
attribute [local go_sem] run_makeMap_plain
theorem Tc2 {p:Prop}(h:p:=by rw [h]):p:=h
theorem zq (w:World) :
  Calls prog 100 #[] w fun e w'=>∃ b,e=.returned (.map (some b))/\bi prog 3 w' b 10 eH/\Below w.heap.size w w':=by
 go_enter func100,ntmps100;have h0:=bi.made prog 3 w;obtain ⟨w1,r1,h1,g1,z1⟩:=h0.store pF underlying153 TcF (lA (a:=1) underlying3 TcF) (.agg #[.int .i64 1,.int .i64 1,.bool false,.bool true,.int .i64 0,.bool false,.bool false,.bool false,.bool false,.bool false]);obtain ⟨w2,r2,h2,g2,z2⟩:=h1.store pF underlying153 TcF (lA (a:=2) underlying3 TcF) (.agg #[.int .i64 2,.int .i64 6,.bool false,.bool true,.int .i64 1,.bool false,.bool false,.bool false,.bool false,.bool false]);obtain ⟨w3,r3,h3,g3,z3⟩:=h2.store pF underlying153 TcF (lA (a:=3) underlying3 TcF) (.agg #[.int .i64 2,.int .i64 6,.bool true,.bool false,.int .i64 1024,.bool true,.bool false,.bool true,.bool false,.bool false]);obtain ⟨w4,r4,h4,g4,z4⟩:=h3.store pF underlying153 TcF (lA (a:=4) underlying3 TcF) (.agg #[.int .i64 3,.int .i64 6,.bool true,.bool false,.int .i64 1,.bool true,.bool false,.bool false,.bool false,.bool false]);obtain ⟨w5,r5,h5,g5,z5⟩:=h4.store pF underlying153 TcF (lA (a:=5) underlying3 TcF) (.agg #[.int .i64 2,.int .i64 2,.bool true,.bool false,.int .i64 64,.bool false,.bool false,.bool false,.bool false,.bool false]);obtain ⟨w6,r6,h6,g6,z6⟩:=h5.store pF underlying153 TcF (lA (a:=6) underlying3 TcF) (.agg #[.int .i64 0,.int .i64 0,.bool false,.bool false,.int .i64 0,.bool false,.bool true,.bool false,.bool false,.bool false]);obtain ⟨w7,r7,h7,g7,z7⟩:=h6.store pF underlying153 TcF (lA (a:=7) underlying3 TcF) (.agg #[.int .i64 3,.int .i64 3,.bool true,.bool false,.int .i64 64,.bool false,.bool false,.bool false,.bool true,.bool false]);obtain ⟨w8,r8,h8,g8,z8⟩:=h7.store pF underlying153 TcF (lA (a:=8) underlying3 TcF) (.agg #[.int .i64 2,.int .i64 2,.bool false,.bool true,.int .i64 0,.bool false,.bool false,.bool false,.bool false,.bool true]);obtain ⟨w9,r9,h9,g9,z9⟩:=h8.store pF underlying153 TcF (lA (a:=9) underlying3 TcF) (.agg #[.int .i64 0,.int .i64 0,.bool false,.bool true,.int .i64 0,.bool false,.bool false,.bool false,.bool false,.bool false]);obtain ⟨w10,r10,h10,g10,z10⟩:=h9.store pF underlying153 TcF (lA (a:=10) underlying3 TcF) (.agg #[.int .i64 0,.int .i64 0,.bool false,.bool true,.int .i64 0,.bool false,.bool false,.bool false,.bool false,.bool false]);have hB0:Below w.heap.size w (w.alloc (.map #[] 0)):=ae w _;go_wp2;go_ret;refine ⟨w.heap.size,rfl,h10.congr ?_,?_⟩
 ·intro key kl hk;clear hk;by_cases e10:key=.int .i64 10
  ·subst e10;rw [upd_same];rfl
  rw [bP e10];by_cases e9:key=.int .i64 9
  ·subst e9;rw [upd_same];rfl
  rw [bP e9];by_cases e8:key=.int .i64 8
  ·subst e8;rw [upd_same];rfl
  rw [bP e8];by_cases e7:key=.int .i64 7
  ·subst e7;rw [upd_same];rfl
  rw [bP e7];by_cases e6:key=.int .i64 6
  ·subst e6;rw [upd_same];rfl
  rw [bP e6];by_cases e5:key=.int .i64 5
  ·subst e5;rw [upd_same];rfl
  rw [bP e5];by_cases e4:key=.int .i64 4
  ·subst e4;rw [upd_same];rfl
  rw [bP e4];by_cases e3:key=.int .i64 3
  ·subst e3;rw [upd_same];rfl
  rw [bP e3];by_cases e2:key=.int .i64 2
  ·subst e2;rw [upd_same];rfl
  rw [bP e2];by_cases e1:key=.int .i64 1
  ·subst e1;rw [upd_same];rfl
  rw [bP e1];unfold eH;split
  ·rename_i q;have f1:¬ q=1:=fun h=>e1 Tc2;have f2:¬ q=2:=fun h=>e2 Tc2;have f3:¬ q=3:=fun h=>e3 Tc2;have f4:¬ q=4:=fun h=>e4 Tc2;have f5:¬ q=5:=fun h=>e5 Tc2;have f6:¬ q=6:=fun h=>e6 Tc2;have f7:¬ q=7:=fun h=>e7 Tc2;have f8:¬ q=8:=fun h=>e8 Tc2;have f9:¬ q=9:=fun h=>e9 Tc2;have f10:¬ q=10:=fun h=>e10 Tc2;rw [shapeOf,bh f1,bh f2,bh f3,bh f4,bh f5,bh f6,bh f7,bh f8,bh f9,bh f10];rfl
  rfl
 have st:∀ W W':World,Below w.heap.size w W->W.grownBy W' (some w.heap.size)->Below w.heap.size w W':=fun W W' hb hg =>
  ⟨hg.os.trans hb.os,hg.tape.trans hb.tape,hg.output.trans hb.output,cA hb.size hg.size,fun k hk=>(hg.block k (cC hk hb.size) (by intro h;injection h with h;omega)).trans (hb.block k hk)⟩
 exact (st _ _ (st _ _ (st _ _ (st _ _ (st _ _ (st _ _ (st _ _ (st _ _ (st _ _ (st _ _ hB0 g1) g2) g3) g4) g5) g6) g7) g8) g9) g10)
end Go.Proofs.YtaagglbgohjldaaGreatDoor
namespace Go.Proofs.YtaagglbgohjldaaGreatDoor
open Go.Proofs.Tryz
open Go.RowKit Go.Maps Go.Shelf
variable {w:World}{b:Nat}{l:List ByteArray}
def iJ (l:List ByteArray)(nm:ByteArray):Nat:=l.countP fun x=>decide (x=nm)
def cntF (l:List ByteArray):Value->Option Value
 | .string s=>if iJ l s=0 then none else some (.int .i64 (iJ l s))
 | _=>none
theorem Dy (l:List ByteArray)(s:ByteArray):(cntF l (.string s)).getD (.int .i64 0)=.int .i64 (iJ l s):=by
 show (if iJ l s=0 then none else some (Value.int .i64 (iJ l s))).getD (.int .i64 0)=_;by_cases h:iJ l s=0
 ·rw [aw h,h];rfl
 rw [bh h];rfl
theorem sV (l:List ByteArray)(x nm:ByteArray):iJ (l++[x]) nm=iJ l nm+if x=nm then 1 else 0:=by
 unfold iJ;rw [List.countP_append];by_cases h:x=nm <;> simp [h]
theorem Bw (l:List ByteArray)(x:ByteArray)(key:Value):cntF (l++[x]) key=upd (cntF l) (.string x) (.int .i64 ((iJ l x:Int)+1)) key:=by
 by_cases h:key=.string x
 ·subst h;rw [upd_same];simp [cntF,sV]
 rw [bP h];unfold cntF;split
 ·rename_i s;have:¬ x=s:=fun e=>h Tdm;rw [sV,bh this];rfl
 rfl
def EJ (g:af)(pool:Bool):List ByteArray:=(aA g.F9).flatMap fun p=>dD p.2 pool
def yt (g:af)(v:ay):Int:=if v.hidden then (if iJ (EJ g true) v.name=1 then 0 else 16) else (if iJ (EJ g false) v.name=0 then 0 else 16)
def rY (g:af):ByteArray × Int:=iM (yt g) g.F9
theorem oM:Keyed prog 9:=string_keyed underlying9
theorem gG (s:ByteArray)(h:s.size<=maxLen):keyOf prog 9 (.string s)=some (.string s.data.toList):=by
 simp [keyOf,underlying9,mapKey,h]
theorem Fx (w:World):(zeroValue 3).run prog w=.ok (.int .i64 0) w:=by kernel_rfl
def dA (l:List (ay × aB))(pool:Bool):List ByteArray:=l.flatMap fun p=>dD p.2 pool
theorem qW (l:List (ay × aB))(v:ay)(s:aB)(pool:Bool):dA (l++[(v,s)]) pool=dA l pool++dD s pool:=by simp [dA]
def gm (w:World)(b:Nat)(l:List ByteArray):Prop:=bi prog 9 w b l.length (cntF l)
theorem gm.look (h:gm w b l)(s:ByteArray)(hs:s.size<=maxLen):(Instr.lookup 207 (.map (some b)) (.string s) false).run prog w=.ok (.int .i64 (iJ l s)) w:=by
 have:=(bi.look h oM underlying207 (Fx w) (key:=.string s) (gG s hs)).1;rwa [Dy] at this
theorem gm.store (h:gm w b l)(hl:l.length<=1000000)(s:ByteArray)(hs:s.size<=maxLen) :
  ∃ w',(Instr.mapUpdate 207 (.map (some b)) (.string s) (.int .i64 ((iJ l s:Int)+1))).run prog w=.ok () w'/\gm w' b (l++[s])/\w.grownBy w' (some b)/\w'.heap.size=w.heap.size:=by
 obtain ⟨w',r,m,g,z⟩:=bi.store h oM underlying207 (rr hl TcF) (key:=.string s) (gG s hs) (.int .i64 ((iJ l s:Int)+1));refine ⟨w',r,?_,g,z⟩;unfold gm;rw [cD];exact m.congr fun key kl _=>Bw l s key
end Go.Proofs.YtaagglbgohjldaaGreatDoor
