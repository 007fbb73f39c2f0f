/- Lemmas: RgB, MoB, RgC, RgP, SegF, RgR, RgD, Qui, RgE. -/
import Derived.Test.YtillcmhjhajimaaGreatDoorQj15
set_option maxRecDepth 100000
set_option maxHeartbeats 32000000
set_option linter.all false
namespace Go.Proofs.YtillcmhjhajimaaGreatDoor
open Go.Proofs.Tryz
open Go.RowKit Go.Maps Go.Shelf
variable {g:af}{k:Nat}{v:ay}{s:aB}{x:eX}{r:aR}{nm:ByteArray}{α:Type}{l:List aB}{P:Program}{Q:Exit->Act->World->Prop}
def OkP(w:World)(e:Ending)(w':World):Prop:=e=.returned (.int .i64 0)/\Below w.heap.size w w'
theorem KA{d:az}(h:pg g k d=0):jo d.name=true/\(∀j x,j<k->g.Gb[j]?=some x->(x.name.toList==d.name.toList)=false/\(x.id==d.id)=false)/\jQ g d/\eP d.tags=0:=by
 unfold pg at h;split at h
 ·cases h
 rename_i h1;split at h
 ·cases h
 rename_i h2;split at h
 ·cases h
 rename_i h3;refine⟨Tdq,fun j x hj hx=>?_,Classical.not_not.1 h3,h⟩;have hm:x∈g.Gb.take k:=ct (i:=j) (by rw[ri hj];exact hx);have:dG d x=false:=by
  cases hs:dG d x with
  |false=>rfl
  |true=>exact absurd (List.any_eq_true.2 ⟨x,hm,hs⟩) h2
 unfold dG at this;rwa[Bool.or_eq_false_iff]at this
theorem Hz(h:yH g k v=0):nE v=true/\(∀j x,j<k->g.F9[j]?=some x->(x.name.toList==v.name.toList)=false/\(x.id==v.id)=false)/\(1<=v.Gf.length/\v.Gf.length<=64)/\eP v.tags=0:=by
 unfold yH at h;split at h
 ·cases h
 rename_i h1;split at h
 ·cases h
 rename_i h2;split at h
 ·cases h
 rename_i h3;refine⟨Tdq,fun j x hj hx=>?_,Classical.not_not.1 h3,h⟩;have hm:x∈g.F9.take k:=ct (i:=j) (by rw[ri hj];exact hx);have:fC v x=false:=by
  cases hs:fC v x with
  |false=>rfl
  |true=>exact absurd (List.any_eq_true.2 ⟨x,hm,hs⟩) h2
 unfold fC at this;rwa[Bool.or_eq_false_iff]at this
theorem TcL{p:Prop}(h:p:=by
 go_wp2;go_ret;exact⟨rfl,eK.o⟩):p:=h
theorem TbG{p:Prop}(h:p:=by
 rintro e w5 ⟨rfl,hb5⟩;rw[ht];have eK:=Zbl fy hb5;clear hb5;exact TcL):p:=h
theorem TbZ{p:Prop}(h:p:=by
 go_wp2;go_roundw;exact⟨j+1,TcN,TcR,o0.o _⟩;simp[intOf];omega):p:=h
theorem KQ{ok:Nat->Prop}(g:af)(a:bN)(k:Nat)(d:az)(w:World)(hg:b6 aO 7 ok w [.slice a.dp g.Gb.length a.dc] g.Gb)(hz:UT g)(hd:g.Gb[k]?=some d)(he:pg g k d=0)(hx:1<=g.Gd/\g.Gd<=1024) :
  Calls prog 83 #[.agg (Tad g a),.int .i64 k] w (OkP w):=by
 obtain⟨hv,hno,⟨r1,r2,r3,r4,r5⟩,ht⟩:=KA he;have Ty:=aa hno;clear hno;have HG:=aa hg;clear hg;have Tt:=(List.getElem?_eq_some_iff.1 hd).1;have CD:=hz.dl;obtain⟨hnz,WY⟩:=hz.disk d (ct hd);have HTZ:=aa WY;clear WY;have hm0:=oA r3 (show 0<=g.Gd by omega);have hw1:IntKind.i64.wrap (d.Gc*g.Gd)=d.Gc*g.Gd:=dy _ TcN;have hw2:IntKind.i64.wrap (d.first+d.Gc*g.Gd)=d.first+d.Gc*g.Gd:=dy _ TcN;obtain⟨b,off,us,hsp,gR,cX,ez,eE,hcv⟩:=HG.o.elem hd;obtain⟨tv,rfl,ew⟩:=eE;obtain⟨tp,tc,rfl,_,_⟩:=ew.cap;have Ug:=aa hsp;clear hsp;have hA1:=ae w (.cells (Tad g a) 32);have CN:=aa (b9 w (.cells (Tad g a) 32));have cT:=hA1.block b cX;go_enter func83,ntmps83
 go_upto_region 1 with(fail);generalize World.alloc w _=W1 at *;generalize C1:w.heap.size=Bg at *;have hA1':Below w.heap.size w W1:=by rw[C1];exact hA1
 obtain⟨q0,q1,q2,q3,q4,q5,q6⟩:=OD cT hcv;have gX:=mi CN.o 6 _ rfl;rw[Ug.o]at gX;have hA2:=ae W1 (.cells (Tah d tp tc) 39);have sX:=aa (b9 W1 (.cells (Tah d tp tc) 39));have pH:=Zbk hA2 CN;have cm:=aa (hA1'.trans (hA2.mono hA1'.size));have Hx:=aa ((b6.moves aF.moves).mv (Mv.of cm.o) ew);clear hcv ez cT hd hA1 hA1' hA2 ew CN he Ug;go_upto_region 2 with(fail);clear q0 q1 q2 q3 q4 q5 q6 gX;generalize World.alloc W1 _=W2 at *;generalize W1.heap.size=Bd at *
 try rw[<- C1]
 have d0:=mi sX.o 0 _ rfl;go_wp2_with fail;clear d0;refine(yh d.name W2 hnz).mono ?_;rintro e w3 ⟨rfl,hb3⟩;rw[hv];have cJ:=Zbl cm hb3;have n9:=Zbk hb3 sX;have LS:=Zbk hb3 pH;have ax2:=aa ((b6.moves aF.moves).mv (Mv.of hb3) Hx.o);clear hb3 cm sX pH Hx;go_wp2;go_loopw[6] (fun i wr=>∃j:Nat,j<=k/\i=.int .i64 j/\Below w3.heap.size w3 wr) (fun i _=>k-(intOf i).toNat)
 exact⟨0,cg _,rfl,bj _ _⟩;obtain⟨j,hj,rfl,hB⟩:=hrel;have dL:=mi ((hB.block _ (aq n9.o)).trans n9.o);by_cases hlt:j<k
 ·obtain⟨x,hx'⟩:=aj g.Gb j TcN;obtain⟨hn1,hn2⟩:=Ty.o j x hlt hx';obtain⟨b3,off3,us3,hsp3,_,PV,_,Tr,hcv3⟩:=HG.o.elem hx';obtain⟨Ym,rfl,_⟩:=Tr;have g6:=mi ((hB.block _ (aq LS.o)).trans LS.o) 6 _ rfl;rw[hsp3]at g6;have Tl:=(cJ.o.trans (hB.mono cJ.o.size)).block b3 PV;obtain⟨x0,x1⟩:=sw2 Tl hcv3;have d0:=dL 0 _ rfl;have d1:=dL 1 _ rfl;have o0:Hid (∀n,Below w3.heap.size w3 (wr.drewN n)):=aa fun n=>aT hB n;clear hcv3 hx' Tl dL hB hsp3
  go_upto_region 7 with(fail);go_quiet (fail);clear hn1 hn2 g6 x0 x1 d0 d1;exact TbZ
 have d2:=dL 2 _ rfl;have d3:=dL 3 _ rfl;have d6:=dL 6 _ rfl;have g3:=mi ((hB.block _ (aq LS.o)).trans LS.o) 3 _ rfl;have fy:=Zbl cJ hB;have HTW:=aa ((b6.moves aF.moves).mv (Mv.of hB) ax2.o);clear dL hB;go_wp2_with fail;clear d2 d3 d6 g3;refine(Hl (ok:=ok) d.tags _ wr HTW.o HTZ.o.1 HTZ.o.2).mono ?_;exact TbG
theorem KC(s:ByteArray)(w:World)(hs:s.size<=9223372036854775807) :
  Calls prog 136 #[.string s] w fun e w'=>e=.returned (.bool (zH s))/\Below w.heap.size w w':=by
 have:=Hm s.data.toList.length s.data.toList w (bk _) TdP;rwa[<- bytes_eta s]at this
theorem JO{ok:Nat->Prop}(g:af)(a:bN)(k:Nat)(v:ay)(w:World)(hg:b6 aN 6 ok w [.slice a.vp g.F9.length a.vc] g.F9)(hz:UT g)(hd:g.F9[k]?=some v)(he:yH g k v=0) :
  Calls prog 84 #[.agg (Tad g a),.int .i64 k] w (OkP w):=by
 obtain⟨hv,hno,⟨l1,l2⟩,ht⟩:=Hz he;have Ty:=aa hno;clear hno;have HG:=aa hg;clear hg;have Tt:=(List.getElem?_eq_some_iff.1 hd).1;have CD:=hz.vl;obtain⟨hnz,WY⟩:=hz.vol v (ct hd);have HTZ:=aa WY;clear WY;obtain⟨b,off,us,hsp,gR,cX,ez,eE,hcv⟩:=HG.o.elem hd;obtain⟨tv,sv,rfl,ew,fL⟩:=eE;obtain⟨tp,tc,rfl,_,_⟩:=ew.cap;obtain⟨sp,sc,rfl,_,_⟩:=fL.cap;have Ug:=aa hsp;clear hsp;have hA1:=ae w (.cells (Tad g a) 32);have CN:=aa (b9 w (.cells (Tad g a) 32));have cT:=hA1.block b cX;go_enter func84,ntmps84
 go_upto_region 1 with(fail);generalize World.alloc w _=W1 at *;generalize C1:w.heap.size=Bg at *;have hA1':Below w.heap.size w W1:=by rw[C1];exact hA1
 obtain⟨q0,q1,q2,q3,q4,q5⟩:=NG cT hcv;have gX:=mi CN.o 7 _ rfl;rw[Ug.o]at gX;have hA2:=ae W1 (.cells (Taf v tp tc sp sc) 57);have sX:=aa (b9 W1 (.cells (Taf v tp tc sp sc) 57));have pH:=Zbk hA2 CN;have cm:=aa (hA1'.trans (hA2.mono hA1'.size));have Hx:=aa ((b6.moves aF.moves).mv (Mv.of cm.o) ew);clear hcv ez cT hd hA1 hA1' hA2 ew fL CN he Ug;go_upto_region 2 with(fail);clear q0 q1 q2 q3 q4 q5 gX;generalize World.alloc W1 _=W2 at *;generalize W1.heap.size=Bd at *
 try rw[<- C1]
 have d0:=mi sX.o 0 _ rfl;have d2:=mi sX.o 2 _ rfl;unfold nE at hv;have HCL:Hid (∀b,v.hidden=b->Calls prog (if b then 136 else 134) #[.string v.name] W2 fun e w'=>e=.returned (.bool true)/\Below W2.heap.size W2 w'):=aa (by
  intro b hb;subst hb;cases hh:v.hidden with
  |true=>rw[hh,aw rfl]at hv;rw[aw rfl,<- hv];exact KC v.name W2 hnz
  |false=>rw[hh,bh TcQ]at hv;rw[bh TcQ,<- hv];exact yh v.name W2 hnz)
 clear hv;generalize hhd:v.hidden=hd at *;have HD2:Hid (W2.cell? (Tac Bd 2)=some (.bool hd)):=aa d2;cases hd
 all_goals
  have Y6:=aa (HCL.o _ rfl);simp only[pj,fY,ej]at Y6;clear HCL;go_wp2_with fail;clear d0 d2;refine Y6.o.mono ?_;rintro e w3 ⟨rfl,hb3⟩;have cJ:=Zbl cm hb3;have n9:=Zbk hb3 sX;have LS:=Zbk hb3 pH;have ax2:=aa ((b6.moves aF.moves).mv (Mv.of hb3) Hx.o);have d2:=(hb3.cell (p:=⟨Bd,2,none⟩) (aq sX.o)).trans HD2.o;clear hb3 cm sX pH Hx Y6 HD2;go_wp2;clear d2;go_loopw[6] (fun i wr=>∃j:Nat,j<=k/\i=.int .i64 j/\Below w3.heap.size w3 wr) (fun i _=>k-(intOf i).toNat)
  exact⟨0,cg _,rfl,bj _ _⟩;obtain⟨j,hj,rfl,hB⟩:=hrel;have dL:=mi ((hB.block _ (aq n9.o)).trans n9.o);by_cases hlt:j<k
  ·obtain⟨x,hx'⟩:=aj g.F9 j TcN;obtain⟨hn1,hn2⟩:=Ty.o j x hlt hx';obtain⟨b3,off3,us3,hsp3,_,PV,_,Tr,hcv3⟩:=HG.o.elem hx';obtain⟨Ym,sv3,rfl,_,_⟩:=Tr;have g7:=mi ((hB.block _ (aq LS.o)).trans LS.o) 7 _ rfl;rw[hsp3]at g7;have Tl:=(cJ.o.trans (hB.mono cJ.o.size)).block b3 PV;obtain⟨x0,x1⟩:=sw2 Tl hcv3;have d0:=dL 0 _ rfl;have d1:=dL 1 _ rfl;have o0:Hid (∀n,Below w3.heap.size w3 (wr.drewN n)):=aa fun n=>aT hB n;clear hcv3 hx' Tl dL hB hsp3
   go_upto_region 7 with(fail);go_quiet (fail);clear hn1 hn2 g7 x0 x1 d0 d1;exact TbZ
  have d4:=dL 4 _ rfl;have d5:=dL 5 _ rfl;have fy:=Zbl cJ hB;have HTW:=aa ((b6.moves aF.moves).mv (Mv.of hB) ax2.o);have e1:decide ((v.Gf.length:Int)<1)=false:=cN TcN;have e2:decide ((64:Int)<(v.Gf.length:Int))=false:=cN TcN;clear dL hB;go_wp2_with fail;clear d4 d5 e1 e2;refine(Hl (ok:=ok) v.tags _ wr HTW.o HTZ.o.1 HTZ.o.2).mono ?_;exact TbG
theorem DD{ext st:Int}(h:bJ ext s st=true):∃x,shapeOf s.kind=some x/\s.start=st/\(1<=s.length/\s.length<=32768)/\(x.least<=s.Ga.length/\s.Ga.length<=x.greatest)/\s.Ga.all (bT x)=true /\
  fq ext s.chunk x=true/\(x.log||s.log.toList.isEmpty)=true/\(x.pool||s.pool.toList.isEmpty)=true/\dP s x=true/\bE s.device 1 65535 x.pool=true/\bE s.mode 1 2 x.mode=true/\bE s.done 0 s.length x.done=true /\
  (s.kind=2->s.length%(s.Ga.length:Int)=0)/\(s.kind=4->s.length%((s.Ga.length:Int)-1)=0):=by
 unfold bJ at h;cases hx:shapeOf s.kind with
 |none=>rw[hx]at h;cases h
 |some x =>
  rw[hx]at h;simp only[eh,fk,beq_iff_eq]at h;obtain⟨⟨⟨⟨⟨⟨⟨⟨⟨⟨⟨⟨⟨⟨h1,h2⟩,h3⟩,h4⟩,h5⟩,h6⟩,h7⟩,h8⟩,h9⟩,h10⟩,h11⟩,h12⟩,h13⟩,h14⟩,h15⟩:=h;refine⟨x,rfl,h1,⟨h2,h3⟩,⟨h4,h5⟩,h6,h7,h8,h9,h10,h11,h12,h13,fun hk=>?_,fun hk=>?_⟩
  ·rw[hk]at h14;simpa using h14
  rw[hk]at h15;simpa using h15
theorem FU{ok:Nat->Prop}(g:af)(a:bN)(bc:Nat)(s:aB)(x:eX)(u:List Value)(w:World)(kB:gY w bc g a)(hg0:0<=g.Gd)(hg1:g.Gd<=1000000)(hv:bC ok w u s)(hm:fq g.Gd s.chunk x=true) :
  Calls prog 162 #[.pointer (some bc),.agg u.toArray,.agg (dm x).toArray] w fun e w'=>e=.returned (.bool true)/\Below w.heap.size w w':=by
 unfold dm;have jt:=kB.lt;obtain⟨av,Oz,rfl,mC,hst⟩:=hv;obtain⟨ap,ac,rfl,aq0,aq1⟩:=mC.cap;obtain⟨eN,eR,rfl,hsc1,hsc2⟩:=hst.cap;clear mC hst;obtain⟨sm,hblk,_⟩:=kB;unfold fq at hm;have cm:=aa ((ae w (.cells (Tae s ap ac eN eR) 88)).trans ((ae (w.alloc (.cells (Tae s ap ac eN eR) 88)) (.cells (Tal x) 159)).mono (ae w (.cells (Tae s ap ac eN eR) 88)).size));have c3:((w.alloc (.cells (Tae s ap ac eN eR) 88)).alloc (.cells (Tal x) 159)).cell? (Tac bc 3)=some (.int .i64 g.Gd):=(cd (a:=⟨bc,3,none⟩) (cm.o.block bc jt)).trans (by simp[World.cell?,hblk]);have x4:((w.alloc (.cells (Tae s ap ac eN eR) 88)).alloc (.cells (Tal x) 159)).cell? (Tac (w.heap.size+1) 4)=some (.int .i64 x.chunk):=aD TcO rfl;have s4:((w.alloc (.cells (Tae s ap ac eN eR) 88)).alloc (.cells (Tal x) 159)).cell? (Tac w.heap.size 4)=some (.int .i64 s.chunk):=(cd (a:=⟨w.heap.size,4,none⟩) (cj _ _ _ TcO)).trans (aD rfl rfl);clear hblk;by_cases h0:x.chunk=0
 ·have q:(x.chunk==0)=true:=by simpa using h0
  rw[aw h0]at hm;have HM:=aa hm;clear h0 hm;go_enter func162,ntmps162;go_wp2;go_ret;exact⟨ah HM.o,cm.o⟩
 have q:(x.chunk==0)=false:=by simpa using h0
 rw[bh h0]at hm;by_cases h1:x.chunk=1
 ·rw[aw h1,eh,fk]at hm;have q1:(x.chunk==1)=true:=by simpa using h1
  obtain⟨hc,hr⟩:=hm;have HM:=aa hr;have e1:g.Gd.tmod s.chunk=g.Gd%s.chunk:=Int.tmod_eq_emod_of_nonneg hg0;have e0:0<=g.Gd%s.chunk:=Int.emod_nonneg _ TcN;have e2:g.Gd%s.chunk<=g.Gd:=by
   rw[Int.emod_def];have:=oA (show 0<=s.chunk by omega) (lz hg0 (show 0<=s.chunk by omega));omega
  have e3:IntKind.i64.wrap (g.Gd%s.chunk)=g.Gd%s.chunk:=dy _ TcN;have e4:(s.chunk==0)=false:=by simp;omega
  clear h0 h1 hr;go_enter func162,ntmps162;go_wp2;go_quiet (fail);go_wp2;go_ret;exact⟨ah HM.o,aT cm.o _⟩
 rw[bh h1,eh,fk,fk]at hm;have q1:(x.chunk==1)=false:=by simpa using h1
 obtain⟨hc,hd⟩:=hm;clear h0 h1;go_enter func162,ntmps162;go_wp2;go_ret;exact⟨rfl,cm.o⟩
theorem BS{ok:Nat->Prop}(g:af)(a:bN)(bc:Nat)(s:aB)(x:eX)(u cx:List Value)(w:World)(kB:gY w bc g a)(hg0:0<=g.Gd)(hg1:g.Gd<=1000000)(hv:bC ok w u s)(hc:cx=dm x)(hm:fq g.Gd s.chunk x=true) :
  Calls prog 162 #[.pointer (some bc),.agg u.toArray,.agg cx.toArray] w fun e w'=>e=.returned (.bool true)/\Below w.heap.size w w':=by
 subst hc;exact FU g a bc s x u w kB hg0 hg1 hv hm
theorem Tb8{p:Prop}(h:p:=by
 go_wp2;go_round;exact⟨k+1,TcN,TcR⟩;simp[intOf];omega):p:=h
theorem Lh{ok:Nat->Prop}(s:aB)(x:eX)(u:List Value)(w:World)(hv:bC ok w u s)(ha:s.Ga.length<=1000000)(hl:s.stale.length<=1000000)(hm:dP s x=true) :
  Calls prog 163 #[.agg u.toArray,.agg (dm x).toArray] w fun e w'=>e=.returned (.bool true)/\Below w.heap.size w w':=by
 unfold dm;obtain⟨av,Oz,rfl,mC,hst⟩:=hv;obtain⟨ap,ac,rfl,aq0,aq1⟩:=mC.cap;obtain⟨eN,eR,rfl,hsc1,hsc2⟩:=hst.cap;have HA:=aa hst;clear mC hst;have HM:=aa (fun k (hk:k<s.stale.length)=>List.all_eq_true.1 hm k (List.mem_range.2 hk));clear hm;have hA1:=ae w (.cells (Tae s ap ac eN eR) 88);have cm:=aa (hA1.trans ((ae (w.alloc (.cells (Tae s ap ac eN eR) 88)) (.cells (Tal x) 159)).mono hA1.size));have x5:((w.alloc (.cells (Tae s ap ac eN eR) 88)).alloc (.cells (Tal x) 159)).cell? (Tac (w.heap.size+1) 5)=some (.bool x.stale):=aD TcO rfl;have s5:((w.alloc (.cells (Tae s ap ac eN eR) 88)).alloc (.cells (Tal x) 159)).cell? (Tac w.heap.size 5)=some (.slice eN s.stale.length eR):=(cd (a:=⟨w.heap.size,5,none⟩) (cj _ _ _ TcO)).trans (aD rfl rfl);clear hA1;cases Fi:s.log.toList.isEmpty
 all_goals
  rw[Fi]at HM;go_enter func163,ntmps163;go_wp2;generalize World.alloc (World.alloc w _) _=W at *
  go_loop[19,6,7] (fun i _ _=>∃k:Nat,k<=s.stale.length/\i=.int .i64 k) (fun i _ _=>s.stale.length-(intOf i).toNat)
  exact⟨0,cg _,rfl⟩;obtain⟨k,hk,rfl⟩:=hrel;by_cases hlt:k<s.stale.length
  ·obtain⟨n,hn⟩:=aj s.stale k hlt;obtain⟨b,off,us,rfl,_,cX,ez,eE,hcv⟩:=HA.o.elem hn;obtain rfl:us=_:=eE;have q0:=(cm.o.cell (p:=⟨b,off+k*1+0,none⟩) cX).trans (hcv 0 _ rfl);rw[fp,fg]at q0;have hgk:s.stale.getD k 0=n:=by simp[hn]
   have h:=HM.o k hlt;unfold bR at h;rw[hgk]at h;simp only[eh,tG,fk,ej,fY,pj]at h;obtain⟨⟨⟨hx5,h0⟩,h1⟩,h4⟩:=h;rw[hx5]at x5;clear hx5 hgk hcv ez hn;by_cases hk0:k<1
   ·clear h4;exact Tb8
   obtain⟨m,hm⟩:=aj s.stale (k-1) TcN;obtain⟨b',off',us',e',_,ak8,TE,Tv,hcv'⟩:=HA.o.elem hm;obtain rfl:us'=_:=Tv;injection e' with e';injection e' with eb eo;subst eb;subst eo;have q1:=(cm.o.cell (p:=⟨b,off+(k-1)*1+0,none⟩) cX).trans (hcv' 0 _ rfl);rw[fp,fg]at q1;have hgm:s.stale.getD (k-1) 0=m:=by simp[hm]
   rw[hgm]at h4;have h2:m<n:=h4.resolve_left TcN;clear h4 hgm hcv' TE ak8 hm;exact Tb8
  go_wp2;go_ret;exact⟨rfl,cm.o⟩
theorem rM{ok:Nat->Prop}(s:aB)(x:eX)(u cx:List Value)(w:World)(hv:bC ok w u s)(ha:s.Ga.length<=1000000)(hl:s.stale.length<=1000000)(hc:cx=dm x)(hm:dP s x=true) :
  Calls prog 163 #[.agg u.toArray,.agg cx.toArray] w fun e w'=>e=.returned (.bool true)/\Below w.heap.size w w':=by
 subst hc;exact Lh s x u w hv ha hl hm
theorem Lm{ok:Nat->Prop}(g:af)(a:bN)(bc:Nat)(s:aB)(start:Int)(u:List Value)(w:World)(kB:gY w bc g a)(hg0:0<=g.Gd)(hg1:g.Gd<=1000000)(hv:bC ok w u s)(ha:s.Ga.length<=1000000)(hl:s.stale.length<=1000000)(TY:(Lit.int .i64 s.kind).wf=true)(hF:bJ g.Gd s start=true) :
  Calls prog 117 #[.pointer (some bc),.agg u.toArray,.int .i64 start] w fun e w'=>e=.returned (.bool true)/\Below w.heap.size w w':=by
 have jt:=kB.lt;have HV:=aa hv;obtain⟨av,Oz,rfl,mC,hst⟩:=hv;obtain⟨ap,ac,rfl,aq0,aq1⟩:=mC.cap;obtain⟨eN,eR,rfl,hsc1,hsc2⟩:=hst.cap;have ya:=aa mC;clear mC hst;have I3:=aa kB;obtain⟨sm,hblk,TZ⟩:=kB;have cU:=aa (ae w (.cells (Tae s ap ac eN eR) 88));have hlk:=fun w' (hm:bi prog 3 w' sm 10 eH)=>(hm.look pF underlying118 (uG w') (lA underlying3 TY)).2;rw[uA]at hlk;obtain⟨x,hx⟩:∃x,x=oO s.kind:=⟨_,rfl⟩;rw[<- hx,show jR x=.agg (Tal x) from rfl]at hlk;have HX:=aa hx;clear hx;have HLK:=aa hlk;clear hlk;have hc9:=cr hblk 9 _ rfl
 have HM:=aa TZ;clear TZ;have Vi:=HM.o.lt;clear hblk;have hS:∀w':World,Below w.heap.size w w'->w'.cell? (Tac w.heap.size 2)=some (.int .i64 s.kind)->w'.cell? (Tac bc 9)=some (.map (some sm))/\w'.cell? (Tac w.heap.size 2)=some (.int .i64 s.kind)/\(Instr.lookup 118 (.map (some sm)) (.int .i64 s.kind) true).run prog w'=.ok (.tuple #[.agg (Tal x),.bool (eH (.int .i64 s.kind)).isSome]) w':=fun w' hb h2 =>
  ⟨(hb.cell (p:=⟨bc,9,none⟩) jt).trans hc9,h2,HLK.o w' (HM.o.block (hb.block _ Vi))⟩
 have HS:=aa hS;clear hS hc9;go_enter func117,ntmps117;go_wp2;generalize hW1:World.alloc w _=W1 at *;have hk2:W1.cell? (Tac w.heap.size 2)=some (.int .i64 s.kind):=by rw[<- hW1];exact aD rfl rfl
 have HW1:=aa hW1;clear hW1;refine aZ (fun w'=>w'.cell? (Tac bc 9)=some (.map (some sm))/\w'.cell? (Tac w.heap.size 2)=some (.int .i64 s.kind)/\(Instr.lookup 118 (.map (some sm)) (.int .i64 s.kind) true).run prog w'=.ok (.tuple #[.agg (Tal x),.bool (eH (.int .i64 s.kind)).isSome]) w') 13 [] TcP (HS.o _ cU.o.drew hk2) (fun hHeld=>?_);refine fS 0 hHeld ?_;refine fS 1 hHeld ?_;refine fS 2 hHeld ?_;refine fS 3 hHeld ?_;refine fS 4 hHeld ?_;refine fS 5 hHeld ?_;refine fS 6 hHeld ?_;refine fS 7 hHeld ?_;refine fS 8 hHeld ?_;refine fS 9 hHeld ?_;refine lR 10 fun K hK=>?_;go_simp;have cm:Hid (Below w.heap.size w (W1.drew.alloc (.cells #[.int .i64 0,.int .i64 0,.bool false,.bool false,.int .i64 0,.bool false,.bool false,.bool false,.bool false,.bool false] 159))):=aa (cU.o.drew.alloc (by have:=cU.o.size;simpa using this) _);refine hK.o _ _ (HS.o _ cm.o ?_) ?_
 ·exact(cd (a:=⟨w.heap.size,2,none⟩) (cj _ _ _ (by simpa using cP W1 _ hk2))).trans hk2
 clear hK K;refine lR 11 fun K hK=>?_;go_simp;have cJ:Hid (Below w.heap.size w (W1.alloc (.cells (Tal x) 159)).drew):=aa ((cU.o.alloc cU.o.size _).drew);have hk3:(W1.alloc (.cells (Tal x) 159)).drew.cell? (Tac w.heap.size 2)=some (.int .i64 s.kind):=(cd (a:=⟨w.heap.size,2,none⟩) (cj _ _ _ (cP W1 _ hk2))).trans hk2;refine hK.o _ _ (HS.o _ cJ.o hk3) ?_;clear hK K;refine lR 12 fun K hK=>?_;go_simp;refine hK.o _ _ (HS.o _ cJ.o hk3) ?_;clear hK K hHeld;refine aP TcP rfl ?_;simp only[cQ,km,cL];have Yg:w.heap.size<W1.heap.size:=cP W1 _ hk2;have HN:=aa (b9 W1 (.cells (Tal x) 159));have HG:Hid ((W1.alloc (.cells (Tal x) 159)).drew.heap[w.heap.size]?=some (.cells (Tae s ap ac eN eR) 88 (0,0))):=aa ((cj _ _ _ Yg).trans (by show W1.heap[w.heap.size]?=_;rw[<- HW1.o];exact b9 w _));have hz:(W1.alloc (.cells (Tal x) 159)).drew.heap.size=W1.heap.size+1:=by simp
 have HN:Hid ((W1.alloc (.cells (Tal x) 159)).drew.heap[W1.heap.size]?=some (.cells (Tal x) 159 (0,0))):=HN;clear hk2 hk3 cm HS HLK;generalize hW2:World.drew (World.alloc W1 _)=W2 at *;generalize XL:W1.heap.size=Bs at *;clear hW2 XL HW1;have hx7:∀(j:Nat) (z:Value),[.int .i64 x.least,.int .i64 x.greatest,.bool x.F9,.bool x.several,.int .i64 x.chunk,.bool x.stale,.bool x.pool,.bool x.log,.bool x.mode,.bool x.done][j]?=some z->∀wr:World,wr.heap[Bs]?=W2.heap[Bs]?->wr.cell? ⟨Bs,j,none⟩=some z:=fun j z hz wr hwr=>by
  simp only[World.cell?,hwr,HN.o];simpa using hz
 have hs7:∀(j:Nat) (z:Value),[.int .i64 s.start,.int .i64 s.length,.int .i64 s.kind,.slice ap s.Ga.length ac,.int .i64 s.chunk,.slice eN s.stale.length eR,.string s.log,.string s.pool,.int .i64 s.device,.int .i64 s.mode,.int .i64 s.done][j]?=some z->∀wr:World,wr.heap[w.heap.size]?=W2.heap[w.heap.size]?->wr.cell? ⟨w.heap.size,j,none⟩=some z:=fun j z hz wr hwr=>by
  simp only[World.cell?,hwr,HG.o];simpa using hz
 have MT:=aa hx7;clear hx7;have HS7:=aa hs7;clear hs7;have x0:=MT.o 0 _ rfl W2 rfl;have x1:=MT.o 1 _ rfl W2 rfl;have s0:=HS7.o 0 _ rfl W2 rfl;have s1:=HS7.o 1 _ rfl W2 rfl;have s3:=HS7.o 3 _ rfl W2 rfl;obtain⟨x',KB,c1,⟨c2,c3⟩,⟨c4,c5⟩,hAA,hCH,YG,hPX,hMK,hW1,hW2,hW3,hm2,hm4⟩:=DD hF;have hi:(eH (.int .i64 s.kind)).isSome=true:=by rw[show eH (.int .i64 s.kind)=(shapeOf s.kind).map jR from rfl,KB];rfl
 obtain rfl:x=x':=by rw[HX.o];simp[oO,KB]
 have HP:=aa (⟨KB,hAA,hCH,YG,hPX,hMK,hW1,hW2,hW3,hm2,hm4⟩:_/\_/\_/\_/\_/\_/\_/\_/\_/\_/\_);clear KB hAA hCH YG hPX hMK hW1 hW2 hW3 hm2 hm4 hF HX;generalize (eH (.int .i64 s.kind)).isSome=isx at *;subst hi;have QX:Hid (0<=s.length/\x.least<=(s.Ga.length:Int)):=aa ⟨TcN,c4⟩;have d1:(s.start != start)=false:=by simp[c1]
 have d2:decide (s.length<1)=false:=by simp;omega
 have d3:decide (32768<s.length)=false:=by simp;omega
 have d4:decide ((s.Ga.length:Int)<x.least)=false:=by simp;omega
 have d5:decide (x.greatest<(s.Ga.length:Int))=false:=by simp;omega
 clear c1 c2 c3 c4 c5;have x2:=MT.o 2 _ rfl W2 rfl;go_wp2;go_loopw[59] (fun i wr=>∃k:Nat,k<=s.Ga.length/\i=.int .i64 k/\Below w.heap.size w wr/\wr.heap[w.heap.size]?=W2.heap[w.heap.size]?/\wr.heap[Bs]?=W2.heap[Bs]?/\Bs<wr.heap.size) (fun i _=>s.Ga.length-(intOf i).toNat)
 exact⟨0,cg _,rfl,cJ.o,rfl,rfl,TcN⟩;clear x0 x1 x2 s0 s1 s3 d1 d2 d3 d4 d5;obtain⟨k,hk,rfl,hB,hw1,hw2,hbz⟩:=hrel;have HW1:=aa hw1;clear hw1;have HW2:=aa hw2;clear hw2;by_cases hlt:k<s.Ga.length
 ·obtain⟨r,hr⟩:=aj s.Ga k hlt;obtain⟨b,off,us,rfl,_,cX,ez,eE,hcv⟩:=ya.o.elem hr;obtain rfl:us=_:=eE;have cT:wr.heap[b]?=w.heap[b]?:=hB.block b cX;obtain⟨q0,q1,q2⟩:=Mn cT hcv;have x2:=MT.o 2 _ rfl wr HW2.o;have gw:=List.all_eq_true.1 HP.o.2.1 r (ct hr);unfold bT at gw;rw[eh]at gw;have rel:Hid (∀o:Obj,∃k':Nat,k'<=s.Ga.length/\Value.int .i64 ((k:Int)+1)=.int .i64 k'/\Below w.heap.size w (wr.alloc o)/\(wr.alloc o).heap[w.heap.size]?=W2.heap[w.heap.size]?/\(wr.alloc o).heap[Bs]?=W2.heap[Bs]?/\Bs<(wr.alloc o).heap.size):=aa fun o =>
   ⟨k+1,TcN,TcR,hB.alloc hB.size _,(cj _ _ _ TcN).trans HW1.o,(cj _ _ _ hbz).trans HW2.o,TcS⟩
  clear hcv ez hr cT;have Na:r.vol=x.F9:=by simpa using gw.1
  rw[<- Na]at x2;have MQ:=gw.2;clear gw Na;cases hv:r.vol with
  |true =>
   rw[hv]at x2 q0;have e2:(r.start != 0)=false:=by
    rw[hv]at MQ;simpa using MQ
   clear MQ hv;go_wp2;go_roundw;exact rel.o _;simp[intOf];omega
  |false =>
   rw[hv]at x2 q0;clear MQ hv;go_wp2;go_roundw;exact rel.o _;simp[intOf];omega
 have Vk:k=s.Ga.length:=by omega
 have xL:=fun j z hz=>MT.o j z hz wr HW2.o;have sL:=fun j z hz=>HS7.o j z hz wr HW1.o;obtain⟨s0,s1,s2,s3,s4,s5,s6,s7,s8,s9,s10⟩:=IC sL;obtain⟨x0,x1,x2,x3,x4,x5,x6,x7,x8,x9⟩:=IG xL;have nw:=aa (BS g a bc s x _ (dm x) wr (I3.o.below hB) hg0 hg1 (bC.moves.mv (Mv.of hB) HV.o) rfl HP.o.2.2.1);clear sL xL
 go_wp2_with fail;refine nw.o.mono ?_;clear nw;rintro e w3 ⟨rfl,hb3⟩;have eI:=aa (hB.trans (hb3.mono hB.size));have NY:=aa ((hb3.block _ TcN).trans HW1.o);have MU:=aa ((hb3.block _ hbz).trans HW2.o);have QZ:Hid (Bs<w3.heap.size):=aa (cC hbz hb3.size);clear hb3 HW1 HW2 hB s0 s1 s2 s3 s4 s5 s6 s7 s8 s9 s10 x0 x1 x2 x3 x4 x5 x6 x7 x8 x9;have xL:=fun j z hz=>MT.o j z hz w3 MU.o;have sL:=fun j z hz=>HS7.o j z hz w3 NY.o;obtain⟨s0,s1,s2,s3,s4,s5,s6,s7,s8,s9,s10⟩:=IC sL;obtain⟨x0,x1,x2,x3,x4,x5,x6,x7,x8,x9⟩:=IG xL;clear sL xL;have sq:=aa (rM s x _ (dm x) w3 (bC.moves.mv (Mv.of eI.o) HV.o) ha hl rfl HP.o.2.2.2.2.2.1);have hlx:=HP.o.2.2.2.1;have Uv:=HP.o.2.2.2.2.1
 have k1:x.log=true\/(x.log=false/\s.log.toList.isEmpty=true):=by
  revert hlx
  cases x.log<;>simp
 have k2:x.pool=true\/(x.pool=false/\s.pool.toList.isEmpty=true):=by
  revert Uv
  cases x.pool<;>simp
 clear hlx Uv;rcases k1 with k1|⟨k1,k1'⟩<;>rcases k2 with k2|⟨k2,k2'⟩
 all_goals
  rw[k1]at x7;rw[k2]at x6;go_wp2_with fail;refine(rM s x _ _ _ (bC.moves.mv (Mv.of eI.o) HV.o) ha hl (by simp[dm,k1,k2]) HP.o.2.2.2.2.2.1).mono ?_;rintro e w5 ⟨rfl,hb5⟩;have eK:=Zbl eI hb5;have Lz:=aa ((hb5.block _ (by have:=eI.o.size;have:=QZ.o;omega)).trans NY.o);have Vl:=aa ((hb5.block _ QZ.o).trans MU.o);clear hb5 s0 s1 s2 s3 s4 s5 s6 s7 s8 s9 s10 x0 x1 x2 x3 x4 x5 x6 x7 x8 x9;have s1:=HS7.o 1 _ rfl w5 Lz.o;have s2:=HS7.o 2 _ rfl w5 Lz.o;have s3:=HS7.o 3 _ rfl w5 Lz.o;have s8:=HS7.o 8 _ rfl w5 Lz.o;have s9:=HS7.o 9 _ rfl w5 Lz.o;have s10:=HS7.o 10 _ rfl w5 Lz.o;have x6:=MT.o 6 _ rfl w5 Vl.o;have x8:=MT.o 8 _ rfl w5 Vl.o;have x9:=MT.o 9 _ rfl w5 Vl.o;have hd:=HP.o.2.2.2.2.2.2.1;rw[k2]at hd;have Tc:=HP.o.2.2.2.2.2.2.2.1;have ND:=HP.o.2.2.2.2.2.2.2.2.1;go_wp2_with fail;refine(di _ _ _ _ _).mono ?_;rintro e w6 ⟨rfl,rfl⟩;rw[hd];go_wp2_with fail;refine(di _ _ _ _ _).mono ?_;rintro e w6 ⟨rfl,rfl⟩;rw[Tc];go_wp2_with fail;refine(di _ _ _ _ _).mono ?_;rintro e w6 ⟨rfl,rfl⟩;rw[ND];clear hd Tc ND s8 s9 s10 x6 x8 x9 k1 k2;by_cases hk2:s.kind=2
  ·have MV:(s.kind==2)=true:=by simpa using hk2
   have aG5:(s.kind==4)=false:=by rw[hk2];rfl
   have h1:=HP.o.1;rw[hk2]at h1;have h2:=lu h1;have h3:=QX.o.2;have Q1:2<=s.Ga.length:=by omega
   have e0:((s.Ga.length:Int)==0)=false:=by rw[beq_eq_false_iff_ne];omega
   have e1:s.length.tmod (s.Ga.length:Int)=s.length%(s.Ga.length:Int):=Int.tmod_eq_emod_of_nonneg QX.o.1;have Vm:(s.length%(s.Ga.length:Int) != 0)=false:=by simpa using HP.o.2.2.2.2.2.2.2.2.2.1 hk2
   clear h1 h2 h3;exact TcL
  have MV:(s.kind==2)=false:=by simpa using hk2
  by_cases hk4:s.kind=4
  ·have aG5:(s.kind==4)=true:=by simpa using hk4
   have h1:=HP.o.1;rw[hk4]at h1;have h2:=kC h1;have h3:=QX.o.2;have Q1:3<=s.Ga.length:=by omega
   have e0:((s.Ga.length:Int)-1==0)=false:=by simp;omega
   have e1:s.length.tmod ((s.Ga.length:Int)-1)=s.length%((s.Ga.length:Int)-1):=Int.tmod_eq_emod_of_nonneg QX.o.1;have Vm:(s.length%((s.Ga.length:Int)-1) != 0)=false:=by simpa using HP.o.2.2.2.2.2.2.2.2.2.2 hk4
   clear h1 h2 h3 hk2 hk4;exact TcL
  have aG5:(s.kind==4)=false:=by simpa using hk4
  clear hk2 hk4;exact TcL
def Kb(x:eX):List Value:=[.int .i64 x.least,.int .i64 x.greatest,.bool x.F9,.bool (x.chunk != 0),.bool x.stale,.bool x.log,.bool x.pool,.bool x.mode,.bool x.done]
theorem pM{k:Int}(h:shapeOf k=some x):k=1\/k=2\/k=3\/k=4\/k=5\/k=6\/k=7\/k=8\/k=9\/k=10:=by
 refine Classical.byContradiction fun q=>?_;simp only[not_or]at q;obtain⟨h1,h2,h3,h4,h5,h6,h7,h8,h9,h10⟩:=q;unfold shapeOf at h;rw[bh h1,bh h2,bh h3,bh h4,bh h5,bh h6,bh h7,bh h8,bh h9,bh h10]at h;cases h
theorem Jv(k:Int)(x:eX)(w:World)(h:shapeOf k=some x) :
  Calls prog 137 #[.int .i64 k] w fun e w'=>e=.returned (.tuple #[.agg (Kb x).toArray,.bool true])/\Below w.heap.size w w':=by
 have hL:=mi (b9 w (.cells (Kb x).toArray 181));have hF:∀u,u=Value.agg (Kb x).toArray->(Ending.returned (.tuple #[u,.bool true])=.returned (.tuple #[.agg (Kb x).toArray,.bool true])):=fun u h=>by rw[h]
 rcases pM h with rfl|rfl|rfl|rfl|rfl|rfl|rfl|rfl|rfl|rfl
 all_goals
  injection h with h;subst h;simp only[Kb,Int.reduceBNe]at hL;obtain⟨r0,r1,r2,r3,r4,r5,r6,r7,r8⟩:=xr hL;clear hL;go_enter func137,ntmps137;go_wp2;exact eC (by simp[results,Tryz.results137,go_sem,r0,r1,r2,r3,r4,r5,r6,r7,r8];rfl) rfl ⟨hF _ rfl,ae w _⟩
def JZ(s:aB):Int:=(s.Ga.length:Int)-1+if s.kind=3/\s.log.toList.isEmpty=false then 1 else 0
def J3(s:aB):Prop:=∀(i:Nat) (n:Int),s.stale[i]?=some n->0<=n/\n<=JZ s/\(i=0\/∃m,s.stale[i-1]?=some m/\m<n)
theorem KJ(hx:shapeOf s.kind=some x)(hl:(x.log||s.log.toList.isEmpty)=true)(hm:dP s x=true):J3 s:=by
 intro i n hi;have hil:=(List.getElem?_eq_some_iff.1 hi).1;unfold dP at hm;have h:=List.all_eq_true.1 hm i (List.mem_range.2 hil);have hg:s.stale.getD i 0=n:=by simp[hi]
 unfold bR at h;rw[hg]at h;simp only[eh,fk,tG]at h;obtain⟨⟨⟨h1,h2⟩,h3⟩,h4⟩:=h;refine⟨h2,?_,?_⟩
 ·unfold JZ
  cases Fi:s.log.toList.isEmpty with
  |true =>
   rw[Fi]at h3;rw[bh (fun q=>by cases q.2)];simp only[ej]at h3;omega
  |false =>
   rw[Fi]at h3 hl;have hk:s.kind=3:=by
    rcases pM hx with h|h|h|h|h|h|h|h|h|h<;>rw[h]at hx<;>injection hx with hx<;>subst hx<;>first|exact h|(exact absurd hl TcQ)
   rw[aw ⟨hk,rfl⟩];simp only[pj,fY]at h3;omega
 rcases h4 with h4|h4
 ·exact .inl h4
 by_cases h0:i=0
 ·exact .inl h0
 obtain⟨m,hm'⟩:=aj s.stale (i-1) TcN;refine .inr ⟨m,hm',?_⟩;have:s.stale.getD (i-1) 0=m:=by simp[hm']
 rwa[this]at h4
theorem Tb0{p:Prop}(h:p:=by
 go_wp2;go_roundw;exact⟨k+1,TcN,TcR,o0.o _⟩;simp[intOf];omega):p:=h
theorem IQ{ok:Nat->Prop}(s:aB)(u:List Value)(w:World)(hv:bC ok w u s)(ha:s.Ga.length<=1000000)(hl:s.stale.length<=1000000)(hs:J3 s) :
  Calls prog 139 #[.agg u.toArray] w fun e w'=>e=.returned (.bool true)/\Below w.heap.size w w':=by
 obtain⟨av,Oz,rfl,mC,hst⟩:=hv;obtain⟨ap,ac,rfl,_,_⟩:=mC.cap;obtain⟨eN,eR,rfl,_,_⟩:=hst.cap;have HA:=aa hst;clear mC hst;have HS:=aa hs;clear hs;have hA:=ae w (.cells (Tae s ap ac eN eR) 88);have lj:=aa (b9 w (.cells (Tae s ap ac eN eR) 88));have cU:=aa hA;clear hA;go_enter func139,ntmps139
 go_upto_region 1 with(fail);generalize World.alloc w _=W1 at *;generalize aD1:w.heap.size=Bs at lj ⊢;have sL:=mi lj.o;have s2:=sL 2 _ rfl;have s3:=sL 3 _ rfl;have s6:=sL 6 _ rfl;clear sL;have hcs:∃hi:Int,JZ s=hi/\((s.kind==3)=false/\IntKind.i64.wrap ((s.Ga.length:Int)-1)=hi\/(s.kind==3)=true/\s.log.toList.isEmpty=true/\IntKind.i64.wrap ((s.Ga.length:Int)-1)=hi\/(s.kind==3)=true/\s.log.toList.isEmpty=false/\∃h0,IntKind.i64.wrap ((s.Ga.length:Int)-1)=h0/\IntKind.i64.wrap (h0+1)=hi):=by
  refine⟨_,rfl,?_⟩;unfold JZ;have q1:IntKind.i64.wrap ((s.Ga.length:Int)-1)=(s.Ga.length:Int)-1:=dy _ TcN;by_cases h3:s.kind=3
  ·cases Fi:s.log.toList.isEmpty with
   |true=>exact .inr (.inl ⟨Tdp,rfl,by rw[bh (fun q=>by cases q.2),q1];omega⟩)
   |false=>exact .inr (.inr ⟨Tdp,rfl,_,q1,by rw[aw ⟨h3,rfl⟩];exact dy _ TcN⟩)
  exact .inl ⟨Tdp,by rw[bh (fun q=>h3 q.1),q1];omega⟩
 obtain⟨hi,hhi,⟨k3,hw1⟩|⟨k3,lg,hw1⟩|⟨k3,lg,h0,hw1,hw2⟩⟩:=hcs
 all_goals
  go_wp2;clear s2 s3 s6;go_loopw[4] (fun i wr=>∃k:Nat,k<=s.stale.length/\i=.int .i64 k/\Below W1.heap.size W1 wr) (fun i _=>s.stale.length-(intOf i).toNat)
  exact⟨0,cg _,rfl,bj _ _⟩;obtain⟨k,hk,rfl,hB⟩:=hrel;have s5:=mi ((hB.block _ (aq lj.o)).trans lj.o) 5 _ rfl;have fy:=Zbl cU hB;have Fc:=aa hB;clear hB;by_cases hlt:k<s.stale.length
  ·obtain⟨n,hn⟩:=aj s.stale k hlt;obtain⟨n0,n1,n2⟩:=HS.o k n hn;obtain⟨b,off,us,rfl,_,cX,_,eE,hcv⟩:=HA.o.elem hn;obtain rfl:us=_:=eE;have q0:=(fy.o.cell (p:=⟨b,off+k*1+0,none⟩) cX).trans (hcv 0 _ rfl);rw[fp,fg]at q0;have d0:decide (n<0)=false:=cN TcN;have d1:decide (hi<n)=false:=cN TcN;have o0:Hid (∀n,Below W1.heap.size W1 (wr.drewN n)):=aa fun n=>aT Fc.o n;clear hcv hn
   by_cases hk0:k<1
   ·have g0:decide ((0:Int)<(k:Int))=false:=cN TcN;have g1:decide (0<k)=false:=cN TcN;clear n2;go_upto_region 7 with(fail);go_quiet (fail);clear q0 s5 d0 d1 g0 g1;exact Tb0
   obtain⟨m,hm,Vm⟩:∃m,s.stale[k-1]?=some m/\m<n:=n2.resolve_left TcN;obtain⟨b',off',us',e',_,ak8,_,Tv,hcv'⟩:=HA.o.elem hm;obtain rfl:us'=_:=Tv;injection e' with e';injection e' with eb eo;subst eb;subst eo;have q1:=(fy.o.cell (p:=⟨b,off+(k-1)*1+0,none⟩) cX).trans (hcv' 0 _ rfl);rw[fp,fg]at q1;have g0:decide ((0:Int)<(k:Int))=true:=eA TcN;have g1:decide (0<k)=true:=eA TcN;have d2:decide (n<=m)=false:=cN TcN;clear hcv' hm ak8;go_upto_region 7 with(fail);go_quiet (fail);clear q0 q1 s5 d0 d1 d2 g0 g1;exact Tb0
  exact Tcu
theorem JU(h:jw g s=true)(hr:r∈s.Ga):(r.vol=true->(aM g.F9 r.on).isSome=true)/\(r.vol=false->(bH g.Gb r.on).isSome=true):=by
 unfold jw at h;rw[eh,eL,eL]at h;refine⟨fun hv=>h.2 _ ?_,fun hv=>?_⟩
 ·unfold dD;exact ju _ (ju _ (List.mem_map.2 ⟨r,List.mem_filter.2 ⟨hr,hv⟩,rfl⟩))
 have:=h.1 r hr;rwa[hv,nj]at this
theorem Km(h:jw g s=true)(hl:s.log.toList.isEmpty=false):(aM g.F9 s.log).isSome=true:=by
 unfold jw at h;rw[eh,eL,eL]at h;refine h.2 _ ?_;unfold dD;rw[hl];exact ju _ (P9 _ TcO)
theorem II(h:jw g s=true)(hk:s.kind=6):(aM g.F9 s.pool).isSome=true:=by
 unfold jw at h;rw[eh,eL,eL]at h;refine h.2 _ ?_;unfold dD;rw[show(true&&s.kind==6)=true by rw[hk];rfl];exact P9 _ TcO
theorem KX(h:s.Ga.all (fI g s)=true)(hr:r∈s.Ga)(hv:r.vol=false) :
  0<=r.start/\r.start<=((bH g.Gb r.on).getD gT).Gc/\iB s.kind s.length s.Ga.length<=((bH g.Gb r.on).getD gT).Gc-r.start:=by
 have:=List.all_eq_true.1 h r hr;unfold fI at this;rw[hv,nj,eh,eh,fk,fk,fk]at this;exact⟨this.1.1,this.1.2,this.2⟩
theorem J8(h:(dD s false).any (dh g)=false)(hr:r∈s.Ga)(hv:r.vol=true):dh g r.on=false:=by
 rw[List.any_eq_false]at h;have:=h r.on (by
  unfold dD;exact ju _ (ju _ (List.mem_map.2 ⟨r,List.mem_filter.2 ⟨hr,hv⟩,rfl⟩)))
 simpa using this
theorem KO(h:(dD s false).any (dh g)=false)(hl:s.log.toList.isEmpty=false):dh g s.log=false:=by
 rw[List.any_eq_false]at h;have:=h s.log (by
  unfold dD;rw[hl];exact ju _ (P9 _ TcO))
 simpa using this
theorem IK(h:dh g nm=false):(eZ ((aM g.F9 nm).getD eY)==6)=false/\(eZ ((aM g.F9 nm).getD eY)==5)=false:=by
 unfold dh at h;rwa[Bool.or_eq_false_iff]at h
theorem K8:jo ⟨#[]⟩=false:=by kernel_rfl
theorem K4:zH ⟨#[]⟩=false:=by kernel_rfl
theorem JC(h:nE v=true):v.name.toList.isEmpty=false:=by
 refine lS (Decidable.byContradiction fun q=>?_);have e:=oI q;unfold nE at h;rw[e,K8,K4]at h;cases hv:v.hidden<;>rw[hv]at h<;>cases h
theorem Jj(h:(aM g.F9 nm).isSome=true):∃v∈g.F9,v.name=nm/\aM g.F9 nm=some v:=by
 obtain⟨v,hv⟩:=Option.isSome_iff_exists.1 h;exact⟨v,eV hv,by simpa[aM]using List.find?_some hv,hv⟩
theorem I9(h3:(dJ g).2=0)(h4:(iP g).2=0)(h5:(mY g).2=0)(hv:v∈g.F9)(hs:s∈v.Gf):rQ s=dD s true/\(s.kind=6->s.pool.toList.isEmpty=false)/\(¬s.kind=6->s.pool.toList.isEmpty=true):=by
 obtain⟨st,hf⟩:=qP h4 v hv s hs;obtain⟨x,hx,-,-,-,-,-,-,PY,-⟩:=DD hf;obtain⟨he,-,-,-,-⟩:=zZ (Dh h5 v hv s hs);by_cases hk:s.kind=6
 ·have hp:s.pool.toList.isEmpty=false:=by
   obtain⟨u,hu,e,-⟩:=Jj (II he hk);rw[<- e];exact JC (nH h3 u hu).1
  refine⟨?_,fun _=>hp,fun q=>absurd hk q⟩;unfold rQ dD;rw[hp,hk];rfl
 have hp:s.pool.toList.isEmpty=true:=by
  have:x.pool=false:=by
   rcases pM hx with h|h|h|h|h|h|h|h|h|h
   all_goals first|exact absurd h hk|(rw[h]at hx;injection hx with hx;subst hx;rfl)
  rwa[this,nj]at PY
 refine⟨?_,fun q=>absurd q hk,fun _=>hp⟩;unfold rQ dD;rw[hp,show(true&&s.kind==6)=false by simp[hk]];rfl
theorem GU(f:aB->List ByteArray):∀vs:List ay,(aA vs).flatMap (fun p=>f p.2)=vs.flatMap fun v=>v.Gf.flatMap f
 |[]=>rfl
 |v :: vs=>by
  have ih:=GU f vs;unfold aA at ih ⊢;rw[lB,xt,ih,lB,List.flatMap_map]
theorem G5{β:Type}{f k:α->List β}:∀ {l:List α},(∀x∈l,f x=k x)->l.flatMap f=l.flatMap k
 |[],_=>rfl
 |x :: l,h=>by rw[lB,lB,h x cG,G5 fun y hy=>h y (kn _ hy)]
def Ci(vs:List ay):List ByteArray:=vs.flatMap kY
theorem KD(h3:(dJ g).2=0)(h4:(iP g).2=0)(h5:(mY g).2=0):Ci g.F9=EJ g true:=by
 unfold Ci EJ;rw[GU fun s=>dD s true];exact G5 fun v hv=>G5 fun s hs=>(I9 h3 h4 h5 hv hs).1
def DN(nm:ByteArray)(l:List aB):Nat:=l.countP fun s=>decide (s.pool=nm)
def yx(nm:ByteArray)(vs:List ay):Nat:=(vs.map fun v=>DN nm v.Gf).sum
theorem Ji(hn:nm.toList.isEmpty=false):∀l:List aB,(∀s∈l,¬s.kind=6->s.pool.toList.isEmpty=true)->iJ (l.flatMap fun s=>if s.kind=6 then [s.pool] else []) nm=DN nm l
 |[],_=>rfl
 |s :: l,h=>by
  have ih:=Ji hn l fun x hx=>h x (kn _ hx);unfold iJ DN at ih ⊢;rw[lB,List.countP_append,ih,List.countP_cons]
  by_cases hk:s.kind=6
  ·rw[aw hk,List.countP_singleton];omega
  have:¬s.pool=nm:=fun e=>by
   have:=h s cG hk;rw[e,hn]at this;cases this
  rw[bh hk,List.countP_nil,bh (by simpa using this)];omega
theorem IY(nm:ByteArray)(f:α->List ByteArray):∀l:List α,iJ (l.flatMap f) nm=(l.map fun x=>iJ (f x) nm).sum
 |[]=>rfl
 |x :: l=>by
  have ih:=IY nm f l;unfold iJ at ih ⊢;rw[lB,List.countP_append,ih,iu,List.sum_cons]
theorem KS(hn:nm.toList.isEmpty=false)(h3:(dJ g).2=0)(h4:(iP g).2=0)(h5:(mY g).2=0):iJ (ai3 (aA g.F9)) nm=yx nm g.F9:=by
 unfold ai3 yx;rw[GU fun s=>if s.kind=6 then [s.pool] else [],IY];congr 1
 exact List.map_congr_left fun v hv=>Ji hn v.Gf fun s hs=>(I9 h3 h4 h5 hv hs).2.2
theorem KT(hm:(mchk g).2=0)(hv:v∈g.F9) :
  (v.hidden=true->iJ (Ci g.F9) v.name=1)/\(v.hidden=false->iJ (Ci g.F9) v.name=yx v.name g.F9/\(yx v.name g.F9=0\/eZ v=5)):=by
 obtain⟨h1,h2,h3,h4,h5,h6,h7,h8⟩:=Dg hm;have hu:yt g v=0:=sS h8 v hv;have hn:=JC (nH h3 v hv).1;have e1:=KD h3 h4 h5;have e2:=KS hn h3 h4 h5;have e3:iJ (EJ g true) v.name=iJ (EJ g false) v.name+iJ (ai3 (aA g.F9)) v.name:=ai8 v.name (aA g.F9);unfold yt at hu;refine⟨fun hh=>?_,fun hh=>?_⟩
 ·rw[aw hh]at hu;rw[e1];split at hu
  ·assumption
  cases hu
 rw[bh (by simp[hh])]at hu;have h0:iJ (EJ g false) v.name=0:=by
  split at hu
  ·assumption
  cases hu
 rw[e1,e3,h0,e2,eJ];refine⟨rfl,?_⟩;by_cases hp:yx v.name g.F9=0
 ·exact .inl hp
 right
 rw[<- e2]at hp;obtain⟨nm,pD,e⟩:=List.countP_pos_iff.1 (Nat.pos_of_ne_zero hp);have e:nm=v.name:=by simpa using e
 obtain⟨p,hp1,hp2⟩:=List.mem_flatMap.1 pD;split at hp2
 ·rename_i hk;obtain rfl:=List.mem_singleton.1 hp2;obtain⟨q1,q2⟩:=WF hp1;have hk5:=(zZ (Dh h5 _ q1 _ q2)).2.2.2.1 hk;have SM:aM g.F9 v.name=some v:=by
   obtain⟨u,hu1,hu2,hu3⟩:=Jj (g:=g) (nm:=v.name) (List.find?_isSome.2 ⟨v,hv,TcO⟩);rw[hu3];congr 1
   obtain⟨i,hi⟩:=fc hu1;obtain⟨j,hj⟩:=fc hv;have ho:∀(j:Nat) (x:ay),g.F9[j]?=some x->yH g j x=0:=fun j x hx=>by
    have:=ll (i:=0) h3 j x hx;rwa[eJ]at this
   rcases Nat.lt_trichotomy i j with q|q|q
   ·have:=((Hz (ho j v hj)).2.1 i u q hi).1;rw[hu2]at this;simp at this
   ·subst q;rw[hi]at hj;injection hj
   have:=((Hz (ho i u hi)).2.1 j v q hj).1;rw[hu2]at this;simp at this
  rw[e,SM]at hk5;exact hk5
 cases hp2
def Cw(l:List aB):Int:=l.foldl (fun n s=>n+s.length) 0
theorem GI(h:l[k]?=some s):Cw (l.take (k+1))=Cw (l.take k)+s.length:=Be (fun(n:Int) (s:aB)=>n+s.length) 0 l k s h
theorem I5{ext:Int}{n:Nat}(h:qV ext n l 0=0):∀(k:Nat),k<=l.length->qV ext n (l.drop k) (Cw (l.take k))=0
 |0,_=>by simpa[Cw]using h
 |k+1,hk=>by
  have ih:=I5 h k TcN;obtain⟨s,hs⟩:=aj l k TcN;rw[CP hs]at ih;rw[GI hs];split at ih
  ·cases ih
  split at ih
  ·cases ih
  exact ih
theorem Kv(h4:(iP g).2=0)(hv:v∈g.F9)(hs:v.Gf[k]?=some s):bJ g.Gd s (Cw (v.Gf.take k))=true/\(1<v.Gf.length->(oO s.kind).several=true):=by
 have h0:qV g.Gd v.Gf.length v.Gf 0=0:=sS h4 v hv;have:=I5 h0 k (by have:=(List.getElem?_eq_some_iff.1 hs).1;omega);rw[CP hs]at this;split at this
 ·cases this
 rename_i c1;split at this
 ·cases this
 rename_i c2;refine⟨by simpa using c1,fun h=>?_⟩;cases hq:(oO s.kind).several with
 |true=>rfl
 |false=>exact absurd ⟨h,hq⟩ c2
theorem I7(h:∀s∈l,0<=s.length/\s.length<=32768):∀k,0<=Cw (l.take k)/\Cw (l.take k)<=32768*(k:Int)
 |0=>by simp[Cw]
 |k+1=>by
  have ih:=I7 h k;by_cases hk:k<l.length
  ·obtain⟨s,hs⟩:=aj l k hk;have:=h s (ct hs);rw[GI hs];omega
  rw[jz TcN]at ih ⊢;omega
theorem Ja(h:eZ v=6):∃s,v.Gf=[s]/\s.kind=6:=by
 unfold eZ at h
 match hv:v.Gf,h with
 |[s],h=>exact⟨s,rfl,h⟩
theorem JY(h7:(pE g).2=0){i:Nat}{x:ay}(Ta:k<i)(hv:g.F9[i]?=some v)(hx:g.F9[k]?=some x){t:aB}(hs:v.Gf=[s])(ht:x.Gf=[t])(hs6:s.kind=6)(ht6:t.kind=6) :
  s.pool≠t.pool\/s.device≠t.device:=by
 have h2:(bD IW [] (aA g.F9)).2=0:=by
  unfold pE at h7;split at h7
  ·exact h7
  rename_i c;exact absurd h7 c
 have e1:g.F9=g.F9.take i++v :: g.F9.drop (i+1):=by
  rw[<- drop_at hv,rk]
 have e2:aA g.F9=aA (g.F9.take i)++(v,s) :: aA (g.F9.drop (i+1)):=by
  conv=>lhs;rw[e1]
  simp[aA,hs]
 have:=Hd h2 _ _ v s e2;unfold IW at this;rw[aw hs6]at this;by_cases c:s.pool=t.pool/\s.device=t.device
 ·exfalso
  rw[aw]at this
  ·cases this
  rw[nh];refine⟨(x,t),?_,by simp[ht6,c.1,c.2]⟩;refine P9 _ (List.mem_flatMap.2 ⟨x,?_,List.mem_map.2 ⟨t,by rw[ht];exact List.mem_singleton_self _,rfl⟩⟩);exact ct (i:=k) (by rw[ri Ta];exact hx)
 by_cases cp:s.pool=t.pool
 ·exact .inr fun q=>c ⟨cp,q⟩
 exact .inl cp
theorem JQ(h:sU g)(i k:Nat)(p q:gy)(Ta:k<i)(hp:(pieces g.F9)[i]?=some p)(hq:(pieces g.F9)[k]?=some q)(hd:p.disk=q.disk):q.start+q.len<=p.start:=by
 have hr:=h.apart.1.row;rw[List.pairwise_iff_getElem]at hr;obtain⟨hi,ei⟩:=List.getElem?_eq_some_iff.1 hp;obtain⟨hk,ek⟩:=List.getElem?_eq_some_iff.1 hq;have hi':i<(triples g.F9).length:=by simpa[triples]using hi
 have hk':k<(triples g.F9).length:=by simpa[triples]using hk
 have:=hr k i hk' hi' Ta;simp only[triples,List.getElem_map,af7]at this;rw[ei,ek]at this;exact this hd.symm
theorem JN(h:sU g):∀p∈pieces g.F9,(0<=p.start/\p.start<=1000000)/\1<=p.len/\p.len<=1000000:=fun p hp=>by
 obtain⟨D,hD,-,h1,h2,h3⟩:=h.apart.1.on (af7 p) (List.mem_map.2 ⟨p,hp,rfl⟩);simp only[af7]at h1 h2 h3;have:=(Fb h.gin h.mchk).de D hD;omega
theorem Tdd{p:Prop}(h:p:=by rw[h];rfl):p:=h
theorem TbH{p:Prop}(h:p:=by
 rw[bh TcQ]at hc;simp only[eh,fk]at hc;exact .inr ⟨Tdd,Tdd,.inr ⟨Tdd,hc⟩⟩):p:=h
theorem Kl{ok:Nat->Prop}(g:af)(a:bN)(s:aB)(x:eX)(u:List Value)(w:World)(hv:bC ok w u s)(hx:shapeOf s.kind=some x)(hc:fq g.Gd s.chunk x=true)(h0:¬x.chunk=0)(he:1<=g.Gd/\g.Gd<=1024) :
  Calls prog 138 #[.agg (Tad g a),.agg u.toArray] w fun e w'=>e=.returned (.bool true)/\Below w.heap.size w w':=by
 obtain⟨av,Oz,rfl,mC,hst⟩:=hv;obtain⟨ap,ac,rfl,_,_⟩:=mC.cap;obtain⟨eN,eR,rfl,_,_⟩:=hst.cap;clear mC hst;have hA1:=ae w (.cells (Tad g a) 32);have hA2:=ae (w.alloc (.cells (Tad g a) 32)) (.cells (Tae s ap ac eN eR) 88);have hN1:=b9 w (.cells (Tad g a) 32);have lj:=aa (b9 (w.alloc (.cells (Tad g a) 32)) (.cells (Tae s ap ac eN eR) 88));have CN:=aa ((hA2.block _ (aq hN1)).trans hN1);have HB:=aa (hA1.trans (hA2.mono hA1.size));clear hA1 hA2 hN1;rw[cW]at lj;go_enter func138,ntmps138
 go_upto_region 1 with(fail);generalize World.alloc (World.alloc w _) _=W1 at *;generalize hE1:w.heap.size+1=Bs at lj ⊢;generalize hE0:w.heap.size=Bg at CN ⊢;have sL:=mi lj.o;have s2:=sL 2 _ rfl;have s4:=sL 4 _ rfl;have g3:=mi CN.o 3 _ rfl;clear sL;have hcs:((s.kind==2)=true\/(s.kind==2)=false/\(s.kind==4)=true)/\1<=s.chunk/\s.chunk<=g.Gd/\g.Gd.tmod s.chunk=0\/(s.kind==2)=false/\(s.kind==4)=false/\((s.kind==3)=true/\1<=s.chunk/\s.chunk<=1024\/(s.kind==3)=false/\1<=s.chunk/\s.chunk<=64):=by
  unfold fq at hc;rw[bh h0]at hc;have hd:∀c:Int,(decide (1<=s.chunk)&&g.Gd%s.chunk==0)=true->1<=s.chunk/\s.chunk<=g.Gd/\g.Gd.tmod s.chunk=0:=fun _ h=>by
   simp only[eh,fk,beq_iff_eq]at h;refine⟨h.1,Int.le_of_dvd TcN (Int.dvd_of_emod_eq_zero h.2),?_⟩;rw[Int.tmod_eq_emod_of_nonneg TcN];exact h.2
  rcases pM hx with h|h|h|h|h|h|h|h|h|h<;>rw[h]at hx<;>injection hx with hx<;>subst hx
  ·exact absurd rfl h0
  ·rw[aw rfl]at hc;exact .inl ⟨.inl Tdc,hd 0 hc⟩
  ·rw[bh TcQ]at hc;simp only[eh,fk]at hc;exact .inr ⟨Tdd,Tdd,.inl ⟨Tdd,hc⟩⟩
  ·rw[aw rfl]at hc;exact .inl ⟨.inr ⟨Tdd,Tdd⟩,hd 0 hc⟩
  ·exact TbH
  ·exact absurd rfl h0
  ·exact TbH
  ·exact absurd rfl h0
  ·exact absurd rfl h0
  exact absurd rfl h0
 clear hc h0 hx hE1 hE0;rcases hcs with⟨k2|⟨k2,k4⟩,c1,c2,c3⟩|⟨k2,k4,⟨k3,c1,c2⟩|⟨k3,c1,c2⟩⟩
 all_goals
  exact Tct
theorem JF(k:Int)(x:eX)(w:World)(hx:shapeOf k=some x) :
  Calls prog 86 #[.int .i64 k] w fun e w'=>e=.returned (.bool x.several)/\w'=w:=by
 rcases pM hx with rfl|rfl|rfl|rfl|rfl|rfl|rfl|rfl|rfl|rfl
 all_goals
  injection hx with hx;subst hx;go_enter func86,ntmps86;go_wp2;go_ret;exact⟨rfl,rfl⟩
theorem DR{ops:Array Oper}{C:World->Prop}{Qn:Act->Prop}(hQ:∀a w,C w->Qn a->Q .normal a w) :
  ∀(l:List Oper) (a:Act) (w:World),C w->wpQuiet P ops C Qn l a->wpList P ops Q l a w
 |[],a,w,hw,h=>hQ a w hw h
 |o :: rest,a,w,hw,h=>by
  unfold wpQuiet at h;unfold wpList;split at h
  ·rename_i ar6;rw[aw ar6];exact .inl (Oper.wp_of_quiet hw (fun a w' hw' hk=>DR hQ rest a w' hw' hk) h)
  rename_i ar6;rw[bh ar6];exact DR hQ rest _ w hw h
theorem wp_region_quiet_lit{id:Nat}{a:Act}{w:World}{l:List Oper}
  (h:wpQuiet P l.toArray (fun w'=>∃p:fo,w'=ext w p) (fun a'=>∀w',(∃p:fo,w'=ext w p)->Q .normal a' w') l a):(Code.region id l.toArray false).wp P Q a w :=
 wp_region_lit (DR (fun _ w' hw hq=>hq w' hw) l a w (jX (bj _ w)) h)
structure K9(g:af)(s:aB)(x:eX):Prop where
 ch:(s.chunk != 0)=(x.chunk != 0)
 st:x.stale=false->decide ((0:Int)<(s.stale.length:Int))=false
 lg:x.log=false->s.log.toList.isEmpty=true
 pl:x.pool=false->s.pool.toList.isEmpty=true
 pd:x.pool=false->(s.device != 0)=false
 md:x.mode=false->(s.mode != 0)=false
 dn:x.done=false->(s.done != 0)=false
 p1:x.pool=true->decide (s.device<1)=false
 p2:x.pool=true->decide ((65535:Int)<s.device)=false
 m1:x.mode=true->s.mode=1\/s.mode=2
 d1:x.done=true->decide (s.done<0)=false
 d2:x.done=true->decide (s.length<s.done)=false
theorem Lb(hch:fq g.Gd s.chunk x=true)(Fi:(x.log||s.log.toList.isEmpty)=true)(PY:(x.pool||s.pool.toList.isEmpty)=true)(aj1:dP s x=true)(am3:bE s.device 1 65535 x.pool=true)(ae8:bE s.mode 1 2 x.mode=true)(hdone:bE s.done 0 s.length x.done=true):K9 g s x:=by
 unfold bE at am3 ae8 hdone;refine⟨?_,fun h=>?_,fun h=>by rwa[h,nj]at Fi,fun h=>by rwa[h,nj]at PY,fun h=>?_,fun h=>?_,fun h=>?_,fun h=>?_,fun h=>?_,fun h=>?_,fun h=>?_,fun h=>?_⟩
 ·unfold fq at hch;by_cases h0:x.chunk=0
  ·rw[aw h0,beq_iff_eq]at hch;rw[hch,h0]
  have h1:1<=s.chunk:=by
   rw[bh h0]at hch;split at hch<;>(rw[eh,fk]at hch;exact hch.1)
  rw[bne_iff_ne.2 (show s.chunk≠0 by omega),bne_iff_ne.2 h0]
 ·refine cN fun q=>?_
  unfold dP at aj1;have:=List.all_eq_true.1 aj1 0 (List.mem_range.2 TcN);unfold bR at this;rw[h,Bool.false_and,Bool.false_and,Bool.false_and]at this;cases this
 ·rw[h]at am3;simpa using am3
 ·rw[h]at ae8;simpa using ae8
 ·rw[h]at hdone;simpa using hdone
 ·rw[h]at am3;simp only[ej,eh,fk]at am3;exact cN TcN
 ·rw[h]at am3;simp only[ej,eh,fk]at am3;exact cN TcN
 ·rw[h]at ae8;simp only[ej,eh,fk]at ae8;omega
 ·rw[h]at hdone;simp only[ej,eh,fk]at hdone;exact cN TcN
 rw[h]at hdone;simp only[ej,eh,fk]at hdone;exact cN TcN
theorem KU{ok:Nat->Prop}(g:af)(a:bN)(s:aB)(u:List Value)(st:Int)(w:World)(hv:bC ok w u s)(hf:bJ g.Gd s st=true)(he:1<=g.Gd/\g.Gd<=1024)(Q1:s.Ga.length<=1000000)(GF:s.stale.length<=1000000) :
  Calls prog 85 #[.agg (Tad g a),.agg u.toArray,.int .i64 st] w fun e w'=>e=.returned (.bool true)/\Below w.heap.size w w':=by
 obtain⟨x,hx,hst0,⟨l1,l2⟩,⟨a1,a2⟩,aq8,hch,Fi,PY,aj1,am3,ae8,hdone,hs2,hs4⟩:=DD hf;subst hst0;have HF:=aa (Lb hch Fi PY aj1 am3 ae8 hdone);have RG:=aa (KJ hx Fi aj1);have HCH:=aa hch;have ya:=aa (List.all_eq_true.1 aq8);have HV:=aa hv;have HX:=aa hx;have HS2:=aa hs2;have HS4:=aa hs4;obtain⟨av,Oz,rfl,mC,TG⟩:=hv;obtain⟨ap,ac,rfl,_,_⟩:=mC.cap;obtain⟨eN,eR,rfl,_,_⟩:=TG.cap;have HA:=aa mC;clear hf hch Fi PY aj1 am3 ae8 hdone mC TG aq8 hx hs2 hs4;have hA1:=ae w (.cells (Tad g a) 32);have hA2:=ae (w.alloc (.cells (Tad g a) 32)) (.cells (Tae s ap ac eN eR) 88);have hN1:=b9 w (.cells (Tad g a) 32);have lj:=aa (b9 (w.alloc (.cells (Tad g a) 32)) (.cells (Tae s ap ac eN eR) 88));have CN:=aa ((hA2.block _ (aq hN1)).trans hN1);have HB:=aa (hA1.trans (hA2.mono hA1.size));clear hA1 hA2 hN1;rw[cW]at lj;go_enter func85,ntmps85
 go_upto_region 1 with(fail);generalize World.alloc (World.alloc w _) _=W1 at *;generalize hE1:w.heap.size+1=Bs at lj ⊢;generalize hE0:w.heap.size=Bg at CN ⊢;have cU:=HB;clear HB hE1;have s2:=mi lj.o 2 _ rfl;go_wp2_with fail;clear s2;refine(Jv s.kind x W1 HX.o).mono ?_;rintro e w2 ⟨rfl,hb2⟩;unfold Kb;have hA3:=ae w2 (.cells #[.int .i64 x.least,.int .i64 x.greatest,.bool x.F9,.bool (x.chunk != 0),.bool x.stale,.bool x.log,.bool x.pool,.bool x.mode,.bool x.done] 181);have Vs:=aa (b9 w2 (.cells #[.int .i64 x.least,.int .i64 x.greatest,.bool x.F9,.bool (x.chunk != 0),.bool x.stale,.bool x.log,.bool x.pool,.bool x.mode,.bool x.done] 181));have hB23:=hb2.trans (hA3.mono hb2.size);have ay8:=Zbl cU hB23;have nB:=Zbk hB23 lj;have LS:=Zbk hB23 CN;clear hb2 hA3 hB23 cU lj CN hE0;go_upto_region 2 with(fail);generalize World.alloc w2 _=W3 at *;generalize w2.heap.size=Bx at Vs ⊢;have hx:=HX.o;have ax3:=ay8;have au1:=Vs;clear ay8 Vs;rcases pM hx with h|h|h|h|h|h|h|h|h|h<;>rw[h]at hx<;>injection hx with hx<;>subst hx
 all_goals(first|(rcases HF.o.m1 rfl with hm|hm)|skip)
 all_goals
  dsimp only at a1 a2;have F:=HF.o;have f1:=F.ch;simp only[Int.reduceBNe]at f1;have k2:=fj (· == (2:Int)) h;have k4:=fj (· == (4:Int)) h;simp only[Int.reduceBEq]at k2 k4;(first|(have f2:=F.st rfl;have f2':decide (0<s.stale.length)=false:=cN (by have:=of_decide_eq_false f2;omega))|skip)
  (first|(have f3:=F.lg rfl)|skip)
  (first|(have f4:=F.pl rfl)|skip)
  (first|(have f5:=F.pd rfl)|skip)
  (first|(have f6:=F.md rfl)|skip)
  (first|(have f7:=F.dn rfl)|skip)
  (first|(have p1:=F.p1 rfl;have p2:=F.p2 rfl)|skip)
  (first|(have d1:=F.d1 rfl;have d2:=F.d2 rfl)|skip)
  (first|(have m1:(s.mode != 1)=false:=by(rw[hm];rfl))|(have m1:(s.mode != 1)=true:=by(rw[hm];rfl);have m2:(s.mode != 2)=false:=by(rw[hm];rfl))|skip)
  (first|(have HM:=aa hm;clear hm)|skip)
  have t1:0<=s.length:=by omega
  (first|(have r2:s.length.tmod (s.Ga.length:Int)=0:=by(rw[Int.tmod_eq_emod_of_nonneg t1];exact HS2.o h);have r2w:IntKind.i64.wrap (s.length.tmod (s.Ga.length:Int))=0:=by(rw[r2];rfl);have r3:((s.Ga.length:Int)==0)=false:=beq_eq_false_iff_ne.2 TcN)|skip)
  (first|(have r4:s.length.tmod ((s.Ga.length:Int)-1)=0:=by(rw[Int.tmod_eq_emod_of_nonneg t1];exact HS4.o h);have r4w:IntKind.i64.wrap (s.length.tmod ((s.Ga.length:Int)-1))=0:=by(rw[r4];rfl);have r5:((s.Ga.length:Int)-1==0)=false:=beq_eq_false_iff_ne.2 TcN;have r6:IntKind.i64.wrap ((s.Ga.length:Int)-1)=(s.Ga.length:Int)-1:=dy _ TcN)|skip)
  (first|(have r2e:(s.length%(s.Ga.length:Int) != 0)=false:=by(rw[HS2.o h];rfl))|skip)
  (first|(have r4e:(s.length%((s.Ga.length:Int)-1) != 0)=false:=by(rw[HS4.o h];rfl))|skip)
  have HHF:=aa h;clear F h;have c1:decide (s.length<1)=false:=cN (Int.not_lt.2 l1);have c2:decide ((32768:Int)<s.length)=false:=cN (Int.not_lt.2 l2);have c3:=cN (Int.not_lt.2 a1);have c4:=cN (Int.not_lt.2 a2);have sL:=mi nB.o;have GF:=aq nB.o;have e0:=aG GF (sL 0 _ rfl);have e1:=aG GF (sL 1 _ rfl);have e3:=aG GF (sL 3 _ rfl);clear sL GF;have xL:=mi au1.o;simp only[Int.reduceBNe]at xL;have vh:=aq au1.o;have y0:=aG vh (xL 0 _ rfl);have y1:=aG vh (xL 1 _ rfl);clear xL vh;(refine wp_region_quiet_lit ?_;(repeat(go_big_quiet_step ((fail))));(with_reducible refine fR ?_);intro wa ay9;have au2:=dY ay9;clear ay9)
  clear e0 e1 e3 y0 y1;clear c1 c2 c3 c4;have au3:=Zbl ax3 au2;have Tx:=Zbk au2 nB;have au4:=Zbk au2 au1;have Nq:=Zbk au2 LS;clear au2 ax3 nB au1 LS;go_upto_region 4 with(fail);simp only[List.append_eq,List.cons_append,List.nil_append];obtain⟨e0,e1,e2,e3,e4,e5,e6,e7,e8,e9,e10⟩:=K7 Tx.o;have xL:=mi au4.o;simp only[Int.reduceBNe]at xL;have vh:=aq au4.o;have y0:=aG vh (xL 0 _ rfl);have y1:=aG vh (xL 1 _ rfl);have y2:=aG vh (xL 2 _ rfl);have y3:=aG vh (xL 3 _ rfl);have y4:=aG vh (xL 4 _ rfl);have y5:=aG vh (xL 5 _ rfl);have y6:=aG vh (xL 6 _ rfl);have y7:=aG vh (xL 7 _ rfl);have y8:=aG vh (xL 8 _ rfl);clear xL vh;obtain⟨z0,z1,z2,z3,z4,z5,z6,z7,z8⟩:=Hr Nq.o;have HVW:=aa fun q:fo=>bC.moves.mv (Mv.of (au3.o.trans ((dQ wa q).mono au3.o.size))) HV.o
  (first|(have XH:=aa fun q:fo=>Kl g a s _ _ (ext wa q) (HVW.o q) HX.o HCH.o TcQ he)|skip)
  have HST:=aa fun q:fo=>IQ s _ (ext wa q) (HVW.o q) Q1 GF RG.o
  (refine wp_region_quiet_lit ?_;(repeat(go_big_quiet_step ((first|(go_at_call 138;exact iH (XH.o _))|(go_at_call 139;exact iH (HST.o _))))));(with_reducible refine fR ?_);intro wb az0;have au5:=dY az0;clear az0)
  clear e0 e1 e2 e3 e4 e5 e6 e7 e8 e9 e10 y0 y1 y2 y3 y4 y5 y6 y7 y8 z0 z1 z2 z3 z4 z5 z6 z7 z8;clear HST HVW;have ax4:=Zbl au3 au5;have au6:=Zbk au5 Tx;have au7:=Zbk au5 au4;have Nr:=Zbk au5 Nq;clear au5 au3 Tx au4 Nq;go_upto_region 6 with(fail);have sL:=mi au6.o;have GF:=aq au6.o;have e1:=aG GF (sL 1 _ rfl);have e8:=aG GF (sL 8 _ rfl);have e9:=aG GF (sL 9 _ rfl);have e10:=aG GF (sL 10 _ rfl);(first|(have hm:=HM.o;rw[hm]at e9;clear hm)|skip)
  clear sL GF;have xL:=mi au7.o;simp only[Int.reduceBNe]at xL;have vh:=aq au7.o;have y6:=aG vh (xL 6 _ rfl);have y7:=aG vh (xL 7 _ rfl);have y8:=aG vh (xL 8 _ rfl);clear xL vh;(refine wp_region_quiet_lit ?_;(repeat(go_big_quiet_step ((fail))));(with_reducible refine fR ?_);intro wc az1;have au8:=dY az1;clear az1)
  clear e1 e8 e9 e10 y6 y7 y8;have aB4:=Zbl ax4 au8;have aw4:=Zbk au8 au6;have az2:=Zbk au8 au7;have RN:=Zbk au8 Nr;clear au8 ax4 au6 au7 Nr;have Tq:=aB4
  repeat(first|go_values|go_skip|go_guarded|go_step|go_upon|go_back)
  go_loopw[9] (fun i wr=>∃k:Nat,k<=s.Ga.length/\i=.int .i64 k/\Below wc.heap.size wc wr) (fun i _=>s.Ga.length-(intOf i).toNat)
  exact⟨0,cg _,rfl,bj _ _⟩;obtain⟨k,hk,rfl,hB⟩:=hrel;have sL:=mi ((hB.block _ (aq aw4.o)).trans aw4.o);have s3:=sL 3 _ rfl;have fy:=Zbl Tq hB;by_cases hlt:k<s.Ga.length
  ·first
   |(exfalso;omega)
   |(
     obtain⟨r,hr⟩:=aj s.Ga k hlt;have ha:=ya.o r (ct hr);unfold bT at ha;simp only[eh,beq_iff_eq,tG,tz]at ha;obtain⟨ha1,ha2⟩:=ha;obtain⟨b,off,us,rfl,_,cX,_,eE,hcv⟩:=HA.o.elem hr;obtain rfl:us=_:=eE;have cT:=fy.o.block b cX;obtain⟨q0,q1,q2⟩:=Mn cT hcv;rw[ha1]at q0 ha2;(first|(have z0:(r.start != 0)=false:=by simpa using ha2)|skip)
     have x2:=mi ((hB.block _ (aq az2.o)).trans az2.o) 2 _ rfl;have o0:Hid (∀n,Below wc.heap.size wc (wr.drewN n)):=aa fun n=>aT hB n;clear hcv hr hB sL cT ha1 ha2
     go_upto_region 11 with(fail);go_quiet (fail);clear q0 q1 q2 x2 s3;go_wp2;go_roundw
     exact⟨k+1,TcN,TcR,o0.o _⟩;simp[intOf];omega)
  have GF:=aq ((hB.block _ (aq aw4.o)).trans aw4.o);have e1:=aG GF (sL 1 _ rfl);have e2:=aG GF (sL 2 _ rfl);have e3:=aG GF (sL 3 _ rfl);clear sL hB GF;go_upto_region 13 with(fail);(refine wp_region_quiet_lit ?_;(repeat(go_big_quiet_step ((fail))));(with_reducible refine fR ?_);intro wd az3;have ao9:=dY az3;clear az3)
  clear e1 e2 e3;have TF:=Zbl fy ao9
  repeat(first|go_values|go_skip|go_guarded|go_step|go_upon|go_back)
  go_ret;exact⟨rfl,TF.o⟩
end Go.Proofs.YtillcmhjhajimaaGreatDoor
