/- Lemmas: RgB, RgC, RgP, RgR, RgD, Qui. -/
import Derived.Test.YtaagglbgohjldaaGreatDoorQv42
set_option maxRecDepth 100000
set_option maxHeartbeats 32000000
set_option linter.all false
namespace Go.Proofs.YtaagglbgohjldaaGreatDoor
open Go.Proofs.Tryz
open Go.RowKit Go.Maps Go.Shelf
variable {g:af}{k:Nat}{v:ay}{ok:Nat->Prop}{x:eX}{ext:Int}{s:aB}{r:aR}{nm:ByteArray}{α:Type}{l:List aB}{P:Program}{Q:Exit->Act->World->Prop}
def OkP (w:World)(e:Ending)(w':World):Prop:=e=.returned (.int .i64 0)/\Below w.heap.size w w'
theorem KA {d:az}(h:pg g k d=0):jo d.name=true/\(∀ j x,j<k->g.Gb[j]?=some x->(x.name.toList == d.name.toList)=false/\(x.id == d.id)=false)/\jQ g d/\eP d.tags=0:=by
 unfold pg at h;split at h
 ·cases h
 rename_i h1;split at h
 ·cases h
 rename_i h2;split at h
 ·cases h
 rename_i h3;refine ⟨TdN,fun j x hj hx=>?_,Classical.not_not.1 h3,h⟩;have hm:x∈g.Gb.take k:=ct (i:=j) (by rw [ri hj];exact hx);have:dG d x=false:=by
  cases hs:dG d x with
  | false=>rfl
  | true=>exact absurd (List.any_eq_true.2 ⟨x,hm,hs⟩) h2
 unfold dG at this;rwa [Bool.or_eq_false_iff] at this
theorem Hz (h:yH g k v=0):nE v=true/\(∀ j x,j<k->g.F9[j]?=some x->(x.name.toList == v.name.toList)=false/\(x.id == v.id)=false)/\(1<=v.Gf.length/\v.Gf.length<=64)/\eP v.tags=0:=by
 unfold yH at h;split at h
 ·cases h
 rename_i h1;split at h
 ·cases h
 rename_i h2;split at h
 ·cases h
 rename_i h3;refine ⟨TdN,fun j x hj hx=>?_,Classical.not_not.1 h3,h⟩;have hm:x∈g.F9.take k:=ct (i:=j) (by rw [ri hj];exact hx);have:fC v x=false:=by
  cases hs:fC v x with
  | false=>rfl
  | true=>exact absurd (List.any_eq_true.2 ⟨x,hm,hs⟩) h2
 unfold fC at this;rwa [Bool.or_eq_false_iff] at this
theorem TbH {p:Prop}(h:p:=by
 rintro e w5 ⟨rfl,hb5⟩;rw [ht];have eK:=Zbl fy hb5;clear hb5;go_wp2;go_ret;exact ⟨rfl,eK.o⟩):p:=h
theorem TbZ {p:Prop}(h:p:=by
 go_wp2;go_roundw;exact ⟨j+1,TcC,TcG,LX.o _⟩;simp [intOf];omega):p:=h
theorem KQ (g:af)(a:bN)(k:Nat)(d:az)(w:World)(hg:ck aO 7 ok w [.slice a.dp g.Gb.length a.dc] g.Gb)(hz:UT g)(hd:g.Gb[k]?=some d)(he:pg g k d=0)(hx:1<=g.Gd/\g.Gd<=1024) :
  Calls prog 74 #[.agg (Tad g a),.int .i64 k] w (OkP w):=by
 obtain ⟨hv,hno,⟨r1,r2,r3,r4,r5⟩,ht⟩:=KA he;have Ty:=aa hno;clear hno;have HG:=aa hg;clear hg;have hkl:=(List.getElem?_eq_some_iff.1 hd).1;have CD:=hz.dl;obtain ⟨hnz,WY⟩:=hz.disk d (ct hd);have HTZ:=aa WY;clear WY;have hm0:=oA r3 (show 0<=g.Gd by omega);have hw1:IntKind.i64.wrap (d.Gc*g.Gd)=d.Gc*g.Gd:=dy _ TcC;have hw2:IntKind.i64.wrap (d.first+d.Gc*g.Gd)=d.first+d.Gc*g.Gd:=dy _ TcC;obtain ⟨b,off,us,hsp,gR,cX,ez,eE,hcv⟩:=HG.o.elem hd;obtain ⟨tv,rfl,ew⟩:=eE;obtain ⟨tp,tc,rfl,_,_⟩:=ew.cap;have Ug:=aa hsp;clear hsp;have hA1:=ae w (.cells (Tad g a) 31);have CN:=aa (b9 w (.cells (Tad g a) 31));have cT:=hA1.block b cX;go_enter func74,ntmps74
 go_upto_region 1 with (fail);generalize World.alloc w _=W1 at *;generalize LY:w.heap.size=Bg at *;have hA1':Below w.heap.size w W1:=by rw [LY];exact hA1
 obtain ⟨q0,q1,q2,q3,q4,q5,q6⟩:=OD cT hcv;have gX:=mi CN.o 6 _ rfl;rw [Ug.o] at gX;have hA2:=ae W1 (.cells (Tah d tp tc) 51);have sX:=aa (b9 W1 (.cells (Tah d tp tc) 51));have pH:=Zbk hA2 CN;have cm:=aa (hA1'.trans (hA2.mono hA1'.size));have Hx:=aa ((ck.moves aF.moves).mv (Mv.of cm.o) ew);clear hcv ez cT hd hA1 hA1' hA2 ew CN he Ug;go_upto_region 2 with (fail);clear q0 q1 q2 q3 q4 q5 q6 gX;generalize World.alloc W1 _=W2 at *;generalize W1.heap.size=Bd at *
 try rw [<- LY]
 have d0:=mi sX.o 0 _ rfl;go_wp2_with fail;clear d0;refine (yh d.name W2 hnz).mono ?_;rintro e w3 ⟨rfl,hb3⟩;rw [hv];have cJ:=Zbl cm hb3;have n9:=Zbk hb3 sX;have LS:=Zbk hb3 pH;have ax2:=aa ((ck.moves aF.moves).mv (Mv.of hb3) Hx.o);clear hb3 cm sX pH Hx;go_wp2;go_loopw [6] (fun i wr=>∃ j:Nat,j<=k/\i=.int .i64 j/\Below w3.heap.size w3 wr) (fun i _=>k - (intOf i).toNat)
 exact ⟨0,cg _,rfl,bj _ _⟩;obtain ⟨j,hj,rfl,hB⟩:=hrel;have dL:=mi ((hB.block _ (aq n9.o)).trans n9.o);by_cases hlt:j<k
 ·obtain ⟨x,hx'⟩:=aj g.Gb j TcC;obtain ⟨hn1,hn2⟩:=Ty.o j x hlt hx';obtain ⟨b3,off3,us3,hsp3,_,PV,_,Tr,hcv3⟩:=HG.o.elem hx';obtain ⟨Ym,rfl,_⟩:=Tr;have g6:=mi ((hB.block _ (aq LS.o)).trans LS.o) 6 _ rfl;rw [hsp3] at g6;have Tl:=(cJ.o.trans (hB.mono cJ.o.size)).block b3 PV;obtain ⟨x0,x1⟩:=sw2 Tl hcv3;have d0:=dL 0 _ rfl;have d1:=dL 1 _ rfl;have LX:Hid (∀ n,Below w3.heap.size w3 (wr.drewN n)):=aa fun n=>aT hB n;clear hcv3 hx' Tl dL hB hsp3
  go_upto_region 7 with (fail);go_quiet (fail);clear hn1 hn2 g6 x0 x1 d0 d1;exact TbZ
 have d2:=dL 2 _ rfl;have d3:=dL 3 _ rfl;have d6:=dL 6 _ rfl;have g3:=mi ((hB.block _ (aq LS.o)).trans LS.o) 3 _ rfl;have fy:=Zbl cJ hB;have HTW:=aa ((ck.moves aF.moves).mv (Mv.of hB) ax2.o);clear dL hB;go_wp2_with fail;clear d2 d3 d6 g3;refine (Hl (ok:=ok) d.tags _ wr HTW.o HTZ.o.1 HTZ.o.2).mono ?_;exact TbH
theorem KC (s:ByteArray)(w:World)(hs:s.size<=9223372036854775807) :
  Calls prog 123 #[.string s] w fun e w'=>e=.returned (.bool (zH s))/\Below w.heap.size w w':=by
 have:=Hm s.data.toList.length s.data.toList w (bk _) TdM;rwa [<- bytes_eta s] at this
theorem JO (g:af)(a:bN)(k:Nat)(v:ay)(w:World)(hg:ck aN 6 ok w [.slice a.vp g.F9.length a.vc] g.F9)(hz:UT g)(hd:g.F9[k]?=some v)(he:yH g k v=0) :
  Calls prog 75 #[.agg (Tad g a),.int .i64 k] w (OkP w):=by
 obtain ⟨hv,hno,⟨l1,l2⟩,ht⟩:=Hz he;have Ty:=aa hno;clear hno;have HG:=aa hg;clear hg;have hkl:=(List.getElem?_eq_some_iff.1 hd).1;have CD:=hz.vl;obtain ⟨hnz,WY⟩:=hz.vol v (ct hd);have HTZ:=aa WY;clear WY;obtain ⟨b,off,us,hsp,gR,cX,ez,eE,hcv⟩:=HG.o.elem hd;obtain ⟨tv,sv,rfl,ew,fL⟩:=eE;obtain ⟨tp,tc,rfl,_,_⟩:=ew.cap;obtain ⟨sp,sc,rfl,_,_⟩:=fL.cap;have Ug:=aa hsp;clear hsp;have hA1:=ae w (.cells (Tad g a) 31);have CN:=aa (b9 w (.cells (Tad g a) 31));have cT:=hA1.block b cX;go_enter func75,ntmps75
 go_upto_region 1 with (fail);generalize World.alloc w _=W1 at *;generalize LY:w.heap.size=Bg at *;have hA1':Below w.heap.size w W1:=by rw [LY];exact hA1
 obtain ⟨q0,q1,q2,q3,q4,q5⟩:=NG cT hcv;have gX:=mi CN.o 7 _ rfl;rw [Ug.o] at gX;have hA2:=ae W1 (.cells (Taf v tp tc sp sc) 68);have sX:=aa (b9 W1 (.cells (Taf v tp tc sp sc) 68));have pH:=Zbk hA2 CN;have cm:=aa (hA1'.trans (hA2.mono hA1'.size));have Hx:=aa ((ck.moves aF.moves).mv (Mv.of cm.o) ew);clear hcv ez cT hd hA1 hA1' hA2 ew fL CN he Ug;go_upto_region 2 with (fail);clear q0 q1 q2 q3 q4 q5 gX;generalize World.alloc W1 _=W2 at *;generalize W1.heap.size=Bd at *
 try rw [<- LY]
 have d0:=mi sX.o 0 _ rfl;have d2:=mi sX.o 2 _ rfl;unfold nE at hv;have HCL:Hid (∀ b,v.hidden=b->Calls prog (if b then 123 else 121) #[.string v.name] W2 fun e w'=>e=.returned (.bool true)/\Below W2.heap.size W2 w'):=aa (by
  intro b hb;subst hb;cases hh:v.hidden with
  | true=>rw [hh,aw rfl] at hv;rw [aw rfl,<- hv];exact KC v.name W2 hnz
  | false=>rw [hh,bh TcF] at hv;rw [bh TcF,<- hv];exact yh v.name W2 hnz)
 clear hv;generalize hhd:v.hidden=hd at *;have HD2:Hid (W2.cell? (Tac Bd 2)=some (.bool hd)):=aa d2;cases hd
 all_goals
  have Y6:=aa (HCL.o _ rfl);simp only [pj,fY,ej] at Y6;clear HCL;go_wp2_with fail;clear d0 d2;refine Y6.o.mono ?_;rintro e w3 ⟨rfl,hb3⟩;have cJ:=Zbl cm hb3;have n9:=Zbk hb3 sX;have LS:=Zbk hb3 pH;have ax2:=aa ((ck.moves aF.moves).mv (Mv.of hb3) Hx.o);have d2:=(hb3.cell (p:=⟨Bd,2,none⟩) (aq sX.o)).trans HD2.o;clear hb3 cm sX pH Hx Y6 HD2;go_wp2;clear d2;go_loopw [6] (fun i wr=>∃ j:Nat,j<=k/\i=.int .i64 j/\Below w3.heap.size w3 wr) (fun i _=>k - (intOf i).toNat)
  exact ⟨0,cg _,rfl,bj _ _⟩;obtain ⟨j,hj,rfl,hB⟩:=hrel;have dL:=mi ((hB.block _ (aq n9.o)).trans n9.o);by_cases hlt:j<k
  ·obtain ⟨x,hx'⟩:=aj g.F9 j TcC;obtain ⟨hn1,hn2⟩:=Ty.o j x hlt hx';obtain ⟨b3,off3,us3,hsp3,_,PV,_,Tr,hcv3⟩:=HG.o.elem hx';obtain ⟨Ym,sv3,rfl,_,_⟩:=Tr;have g7:=mi ((hB.block _ (aq LS.o)).trans LS.o) 7 _ rfl;rw [hsp3] at g7;have Tl:=(cJ.o.trans (hB.mono cJ.o.size)).block b3 PV;obtain ⟨x0,x1⟩:=sw2 Tl hcv3;have d0:=dL 0 _ rfl;have d1:=dL 1 _ rfl;have LX:Hid (∀ n,Below w3.heap.size w3 (wr.drewN n)):=aa fun n=>aT hB n;clear hcv3 hx' Tl dL hB hsp3
   go_upto_region 7 with (fail);go_quiet (fail);clear hn1 hn2 g7 x0 x1 d0 d1;exact TbZ
  have d4:=dL 4 _ rfl;have d5:=dL 5 _ rfl;have fy:=Zbl cJ hB;have HTW:=aa ((ck.moves aF.moves).mv (Mv.of hB) ax2.o);have e1:decide ((v.Gf.length:Int)<1)=false:=cN TcC;have e2:decide ((64:Int)<(v.Gf.length:Int))=false:=cN TcC;clear dL hB;go_wp2_with fail;clear d4 d5 e1 e2;refine (Hl (ok:=ok) v.tags _ wr HTW.o HTZ.o.1 HTZ.o.2).mono ?_;exact TbH
def Kb (x:eX):List Value:=[.int .i64 x.least,.int .i64 x.greatest,.bool x.F9,.bool (x.chunk != 0),.bool x.stale,.bool x.log,.bool x.pool,.bool x.mode,.bool x.done]
theorem pM {k:Int}(h:shapeOf k=some x):k=1\/k=2\/k=3\/k=4\/k=5\/k=6\/k=7\/k=8\/k=9\/k=10:=by
 refine Classical.byContradiction fun q=>?_;simp only [not_or] at q;obtain ⟨h1,h2,h3,h4,h5,h6,h7,h8,h9,h10⟩:=q;unfold shapeOf at h;rw [bh h1,bh h2,bh h3,bh h4,bh h5,bh h6,bh h7,bh h8,bh h9,bh h10] at h;cases h
theorem Jv (k:Int)(x:eX)(w:World)(h:shapeOf k=some x) :
  Calls prog 124 #[.int .i64 k] w fun e w'=>e=.returned (.tuple #[.agg (Kb x).toArray,.bool true])/\Below w.heap.size w w':=by
 have hL:=mi (b9 w (.cells (Kb x).toArray 178));have hF:∀ u,u=Value.agg (Kb x).toArray->(Ending.returned (.tuple #[u,.bool true])=.returned (.tuple #[.agg (Kb x).toArray,.bool true])):=fun u h=>by rw [h]
 rcases pM h with rfl | rfl | rfl | rfl | rfl | rfl | rfl | rfl | rfl | rfl
 all_goals
  injection h with h;subst h;simp only [Kb,Int.reduceBNe] at hL;obtain ⟨r0,r1,r2,r3,r4,r5,r6,r7,r8⟩:=xr hL;clear hL;go_enter func124,ntmps124;go_wp2;exact eC (by simp [results,Tryz.results124,go_sem,r0,r1,r2,r3,r4,r5,r6,r7,r8];rfl) rfl ⟨hF _ rfl,ae w _⟩
def JZ (s:aB):Int:=(s.Ga.length:Int) - 1+if s.kind=3/\s.log.toList.isEmpty=false then 1 else 0
def J3 (s:aB):Prop:=∀ (i:Nat) (n:Int),s.stale[i]?=some n->0<=n/\n<=JZ s/\(i=0\/∃ m,s.stale[i - 1]?=some m/\m<n)
theorem DD {st:Int}(h:bJ ext s st=true):∃ x,shapeOf s.kind=some x/\s.start=st/\(1<=s.length/\s.length<=32768)/\(x.least<=s.Ga.length/\s.Ga.length<=x.greatest)/\s.Ga.all (bT x)=true /\
  fq ext s.chunk x=true/\(x.log||s.log.toList.isEmpty)=true/\(x.pool||s.pool.toList.isEmpty)=true/\dP s x=true/\bE s.device 1 65535 x.pool=true/\bE s.mode 1 2 x.mode=true/\bE s.done 0 s.length x.done=true /\
  (s.kind=2->s.length % (s.Ga.length:Int)=0)/\(s.kind=4->s.length % ((s.Ga.length:Int) - 1)=0):=by
 unfold bJ at h;cases hx:shapeOf s.kind with
 | none=>rw [hx] at h;cases h
 | some x =>
  rw [hx] at h;simp only [eh,fk,beq_iff_eq] at h;obtain ⟨⟨⟨⟨⟨⟨⟨⟨⟨⟨⟨⟨⟨⟨h1,h2⟩,h3⟩,h4⟩,h5⟩,h6⟩,h7⟩,h8⟩,h9⟩,h10⟩,h11⟩,h12⟩,h13⟩,h14⟩,h15⟩:=h;refine ⟨x,rfl,h1,⟨h2,h3⟩,⟨h4,h5⟩,h6,h7,h8,h9,h10,h11,h12,h13,fun hk=>?_,fun hk=>?_⟩
  ·rw [hk] at h14;simpa using h14
  rw [hk] at h15;simpa using h15
theorem KJ (hx:shapeOf s.kind=some x)(hl:(x.log||s.log.toList.isEmpty)=true)(hm:dP s x=true):J3 s:=by
 intro i n hi;have hil:=(List.getElem?_eq_some_iff.1 hi).1;unfold dP at hm;have h:=List.all_eq_true.1 hm i (List.mem_range.2 hil);have hg:s.stale.getD i 0=n:=by simp [hi]
 unfold bR at h;rw [hg] at h;simp only [eh,fk,tG] at h;obtain ⟨⟨⟨h1,h2⟩,h3⟩,h4⟩:=h;refine ⟨h2,?_,?_⟩
 ·unfold JZ
  cases Fi:s.log.toList.isEmpty with
  | true =>
   rw [Fi] at h3;rw [bh (fun q=>by cases q.2)];simp only [ej] at h3;omega
  | false =>
   rw [Fi] at h3 hl;have hk:s.kind=3:=by
    rcases pM hx with h | h | h | h | h | h | h | h | h | h <;> rw [h] at hx <;> injection hx with hx <;> subst hx <;> first | exact h | (exact absurd hl TcF)
   rw [aw ⟨hk,rfl⟩];simp only [pj,fY] at h3;omega
 rcases h4 with h4 | h4
 ·exact .inl h4
 by_cases h0:i=0
 ·exact .inl h0
 obtain ⟨m,hm'⟩:=aj s.stale (i - 1) TcC;refine .inr ⟨m,hm',?_⟩;have:s.stale.getD (i - 1) 0=m:=by simp [hm']
 rwa [this] at h4
theorem Tb0 {p:Prop}(h:p:=by
 go_wp2;go_roundw;exact ⟨k+1,TcC,TcG,LX.o _⟩;simp [intOf];omega):p:=h
theorem IQ (s:aB)(u:List Value)(w:World)(hv:bC ok w u s)(ha:s.Ga.length<=1000000)(hl:s.stale.length<=1000000)(hs:J3 s) :
  Calls prog 126 #[.agg u.toArray] w fun e w'=>e=.returned (.bool true)/\Below w.heap.size w w':=by
 obtain ⟨av,Oz,rfl,py,hst⟩:=hv;obtain ⟨ap,ac,rfl,_,_⟩:=py.cap;obtain ⟨eN,eR,rfl,_,_⟩:=hst.cap;have HA:=aa hst;clear py hst;have HS:=aa hs;clear hs;have hA:=ae w (.cells (Tae s ap ac eN eR) 114);have lj:=aa (b9 w (.cells (Tae s ap ac eN eR) 114));have cU:=aa hA;clear hA;go_enter func126,ntmps126
 go_upto_region 1 with (fail);generalize World.alloc w _=W1 at *;generalize aD1:w.heap.size=Bs at lj ⊢;have sL:=mi lj.o;have s2:=sL 2 _ rfl;have s3:=sL 3 _ rfl;have s6:=sL 6 _ rfl;clear sL;have hcs:∃ hi:Int,JZ s=hi/\((s.kind == 3)=false/\IntKind.i64.wrap ((s.Ga.length:Int) - 1)=hi\/(s.kind == 3)=true/\s.log.toList.isEmpty=true/\IntKind.i64.wrap ((s.Ga.length:Int) - 1)=hi\/(s.kind == 3)=true/\s.log.toList.isEmpty=false/\∃ h0,IntKind.i64.wrap ((s.Ga.length:Int) - 1)=h0/\IntKind.i64.wrap (h0+1)=hi):=by
  refine ⟨_,rfl,?_⟩;unfold JZ;have q1:IntKind.i64.wrap ((s.Ga.length:Int) - 1)=(s.Ga.length:Int) - 1:=dy _ TcC;by_cases h3:s.kind=3
  ·cases Fi:s.log.toList.isEmpty with
   | true=>exact .inr (.inl ⟨Tdc,rfl,by rw [bh (fun q=>by cases q.2),q1];omega⟩)
   | false=>exact .inr (.inr ⟨Tdc,rfl,_,q1,by rw [aw ⟨h3,rfl⟩];exact dy _ TcC⟩)
  exact .inl ⟨Tdc,by rw [bh (fun q=>h3 q.1),q1];omega⟩
 obtain ⟨hi,hhi,⟨k3,hw1⟩ | ⟨k3,lg,hw1⟩ | ⟨k3,lg,h0,hw1,hw2⟩⟩:=hcs
 all_goals
  go_wp2;clear s2 s3 s6;go_loopw [4] (fun i wr=>∃ k:Nat,k<=s.stale.length/\i=.int .i64 k/\Below W1.heap.size W1 wr) (fun i _=>s.stale.length - (intOf i).toNat)
  exact ⟨0,cg _,rfl,bj _ _⟩;obtain ⟨k,hk,rfl,hB⟩:=hrel;have s5:=mi ((hB.block _ (aq lj.o)).trans lj.o) 5 _ rfl;have fy:=Zbl cU hB;have Fc:=aa hB;clear hB;by_cases hlt:k<s.stale.length
  ·obtain ⟨n,hn⟩:=aj s.stale k hlt;obtain ⟨n0,n1,n2⟩:=HS.o k n hn;obtain ⟨b,off,us,rfl,_,cX,_,eE,hcv⟩:=HA.o.elem hn;obtain rfl:us=_:=eE;have q0:=(fy.o.cell (p:=⟨b,off+k*1+0,none⟩) cX).trans (hcv 0 _ rfl);rw [fp,fg] at q0;have d0:decide (n<0)=false:=cN TcC;have d1:decide (hi<n)=false:=cN TcC;have LX:Hid (∀ n,Below W1.heap.size W1 (wr.drewN n)):=aa fun n=>aT Fc.o n;clear hcv hn
   by_cases hk0:k<1
   ·have g0:decide ((0:Int)<(k:Int))=false:=cN TcC;have g1:decide (0<k)=false:=cN TcC;clear n2;go_upto_region 7 with (fail);go_quiet (fail);clear q0 s5 d0 d1 g0 g1;exact Tb0
   obtain ⟨m,hm,Vm⟩:∃ m,s.stale[k - 1]?=some m/\m<n:=n2.resolve_left TcC;obtain ⟨b',off',us',e',_,ak8,_,Tv,hcv'⟩:=HA.o.elem hm;obtain rfl:us'=_:=Tv;injection e' with e';injection e' with eb eo;subst eb;subst eo;have q1:=(fy.o.cell (p:=⟨b,off+(k - 1)*1+0,none⟩) cX).trans (hcv' 0 _ rfl);rw [fp,fg] at q1;have g0:decide ((0:Int)<(k:Int))=true:=eA TcC;have g1:decide (0<k)=true:=eA TcC;have d2:decide (n<=m)=false:=cN TcC;clear hcv' hm ak8;go_upto_region 7 with (fail);go_quiet (fail);clear q0 q1 s5 d0 d1 d2 g0 g1;exact Tb0
  go_wp2;go_ret;exact ⟨rfl,fy.o⟩
theorem JU (h:jw g s=true)(hr:r∈s.Ga):(r.vol=true->(aM g.F9 r.on).isSome=true)/\(r.vol=false->(bH g.Gb r.on).isSome=true):=by
 unfold jw at h;rw [eh,eL,eL] at h;refine ⟨fun hv=>h.2 _ ?_,fun hv=>?_⟩
 ·unfold dD;exact ju _ (ju _ (List.mem_map.2 ⟨r,List.mem_filter.2 ⟨hr,hv⟩,rfl⟩))
 have:=h.1 r hr;rwa [hv,nj] at this
theorem Km (h:jw g s=true)(hl:s.log.toList.isEmpty=false):(aM g.F9 s.log).isSome=true:=by
 unfold jw at h;rw [eh,eL,eL] at h;refine h.2 _ ?_;unfold dD;rw [hl];exact ju _ (P9 _ TcD)
theorem II (h:jw g s=true)(hk:s.kind=6):(aM g.F9 s.pool).isSome=true:=by
 unfold jw at h;rw [eh,eL,eL] at h;refine h.2 _ ?_;unfold dD;rw [show (true&&s.kind == 6)=true by rw [hk];rfl];exact P9 _ TcD
theorem KX (h:s.Ga.all (fI g s)=true)(hr:r∈s.Ga)(hv:r.vol=false) :
  0<=r.start/\r.start<=((bH g.Gb r.on).getD gT).Gc/\iB s.kind s.length s.Ga.length<=((bH g.Gb r.on).getD gT).Gc - r.start:=by
 have:=List.all_eq_true.1 h r hr;unfold fI at this;rw [hv,nj,eh,eh,fk,fk,fk] at this;exact ⟨this.1.1,this.1.2,this.2⟩
theorem J8 (h:(dD s false).any (dh g)=false)(hr:r∈s.Ga)(hv:r.vol=true):dh g r.on=false:=by
 rw [List.any_eq_false] at h;have:=h r.on (by
  unfold dD;exact ju _ (ju _ (List.mem_map.2 ⟨r,List.mem_filter.2 ⟨hr,hv⟩,rfl⟩)))
 simpa using this
theorem KO (h:(dD s false).any (dh g)=false)(hl:s.log.toList.isEmpty=false):dh g s.log=false:=by
 rw [List.any_eq_false] at h;have:=h s.log (by
  unfold dD;rw [hl];exact ju _ (P9 _ TcD))
 simpa using this
theorem IK (h:dh g nm=false):(eZ ((aM g.F9 nm).getD eY) == 6)=false/\(eZ ((aM g.F9 nm).getD eY) == 5)=false:=by
 unfold dh at h;rwa [Bool.or_eq_false_iff] at h
theorem K8:jo ⟨#[]⟩=false:=by kernel_rfl
theorem K4:zH ⟨#[]⟩=false:=by kernel_rfl
theorem JC (h:nE v=true):v.name.toList.isEmpty=false:=by
 refine lS (Decidable.byContradiction fun q=>?_);have e:=oI q;unfold nE at h;rw [e,K8,K4] at h;cases hv:v.hidden <;> rw [hv] at h <;> cases h
theorem Jj (h:(aM g.F9 nm).isSome=true):∃ v∈g.F9,v.name=nm/\aM g.F9 nm=some v:=by
 obtain ⟨v,hv⟩:=Option.isSome_iff_exists.1 h;exact ⟨v,eV hv,by simpa [aM] using List.find?_some hv,hv⟩
theorem I9 (h3:(dJ g).2=0)(h4:(iP g).2=0)(h5:(mY g).2=0)(hv:v∈g.F9)(hs:s∈v.Gf):rQ s=dD s true/\(s.kind=6->s.pool.toList.isEmpty=false)/\(¬ s.kind=6->s.pool.toList.isEmpty=true):=by
 obtain ⟨st,hf⟩:=qP h4 v hv s hs;obtain ⟨x,hx,-,-,-,-,-,-,PY,-⟩:=DD hf;obtain ⟨he,-,-,-,-⟩:=zZ (Dh h5 v hv s hs);by_cases hk:s.kind=6
 ·have hp:s.pool.toList.isEmpty=false:=by
   obtain ⟨u,hu,e,-⟩:=Jj (II he hk);rw [<- e];exact JC (nH h3 u hu).1
  refine ⟨?_,fun _=>hp,fun q=>absurd hk q⟩;unfold rQ dD;rw [hp,hk];rfl
 have hp:s.pool.toList.isEmpty=true:=by
  have:x.pool=false:=by
   rcases pM hx with h | h | h | h | h | h | h | h | h | h
   all_goals first | exact absurd h hk | (rw [h] at hx;injection hx with hx;subst hx;rfl)
  rwa [this,nj] at PY
 refine ⟨?_,fun q=>absurd q hk,fun _=>hp⟩;unfold rQ dD;rw [hp,show (true&&s.kind == 6)=false by simp [hk]];rfl
theorem GU (f:aB->List ByteArray):∀ vs:List ay,(aA vs).flatMap (fun p=>f p.2)=vs.flatMap fun v=>v.Gf.flatMap f
 | []=>rfl
 | v :: vs=>by
  have ih:=GU f vs;unfold aA at ih ⊢;rw [lB,xt,ih,lB,List.flatMap_map]
theorem G5 {β:Type}{f k:α->List β}:∀ {l:List α},(∀ x∈l,f x=k x)->l.flatMap f=l.flatMap k
 | [],_=>rfl
 | x :: l,h=>by rw [lB,lB,h x cG,G5 fun y hy=>h y (kn _ hy)]
def Ci (vs:List ay):List ByteArray:=vs.flatMap kY
theorem KD (h3:(dJ g).2=0)(h4:(iP g).2=0)(h5:(mY g).2=0):Ci g.F9=EJ g true:=by
 unfold Ci EJ;rw [GU fun s=>dD s true];exact G5 fun v hv=>G5 fun s hs=>(I9 h3 h4 h5 hv hs).1
def DN (nm:ByteArray)(l:List aB):Nat:=l.countP fun s=>decide (s.pool=nm)
def yx (nm:ByteArray)(vs:List ay):Nat:=(vs.map fun v=>DN nm v.Gf).sum
theorem Ji (hn:nm.toList.isEmpty=false):∀ l:List aB,(∀ s∈l,¬ s.kind=6->s.pool.toList.isEmpty=true)->iJ (l.flatMap fun s=>if s.kind=6 then [s.pool] else []) nm=DN nm l
 | [],_=>rfl
 | s :: l,h=>by
  have ih:=Ji hn l fun x hx=>h x (kn _ hx);unfold iJ DN at ih ⊢;rw [lB,List.countP_append,ih,List.countP_cons]
  by_cases hk:s.kind=6
  ·rw [aw hk,List.countP_singleton];omega
  have:¬ s.pool=nm:=fun e=>by
   have:=h s cG hk;rw [e,hn] at this;cases this
  rw [bh hk,List.countP_nil,bh (by simpa using this)];omega
theorem IY (nm:ByteArray)(f:α->List ByteArray):∀ l:List α,iJ (l.flatMap f) nm=(l.map fun x=>iJ (f x) nm).sum
 | []=>rfl
 | x :: l=>by
  have ih:=IY nm f l;unfold iJ at ih ⊢;rw [lB,List.countP_append,ih,iu,List.sum_cons]
theorem KS (hn:nm.toList.isEmpty=false)(h3:(dJ g).2=0)(h4:(iP g).2=0)(h5:(mY g).2=0):iJ (ai3 (aA g.F9)) nm=yx nm g.F9:=by
 unfold ai3 yx;rw [GU fun s=>if s.kind=6 then [s.pool] else [],IY];congr 1
 exact List.map_congr_left fun v hv=>Ji hn v.Gf fun s hs=>(I9 h3 h4 h5 hv hs).2.2
theorem KT (hm:(mchk g).2=0)(hv:v∈g.F9) :
  (v.hidden=true->iJ (Ci g.F9) v.name=1)/\(v.hidden=false->iJ (Ci g.F9) v.name=yx v.name g.F9/\(yx v.name g.F9=0\/eZ v=5)):=by
 obtain ⟨h1,h2,h3,h4,h5,h6,h7,h8⟩:=Dg hm;have hu:yt g v=0:=sS h8 v hv;have hn:=JC (nH h3 v hv).1;have e1:=KD h3 h4 h5;have e2:=KS hn h3 h4 h5;have e3:iJ (EJ g true) v.name=iJ (EJ g false) v.name+iJ (ai3 (aA g.F9)) v.name:=ai8 v.name (aA g.F9);unfold yt at hu;refine ⟨fun hh=>?_,fun hh=>?_⟩
 ·rw [aw hh] at hu;rw [e1];split at hu
  ·assumption
  cases hu
 rw [bh (by simp [hh])] at hu;have h0:iJ (EJ g false) v.name=0:=by
  split at hu
  ·assumption
  cases hu
 rw [e1,e3,h0,e2,eJ];refine ⟨rfl,?_⟩;by_cases hp:yx v.name g.F9=0
 ·exact .inl hp
 right
 rw [<- e2] at hp;obtain ⟨nm,pD,e⟩:=List.countP_pos_iff.1 (Nat.pos_of_ne_zero hp);have e:nm=v.name:=by simpa using e
 obtain ⟨p,hp1,hp2⟩:=List.mem_flatMap.1 pD;split at hp2
 ·rename_i hk;obtain rfl:=List.mem_singleton.1 hp2;obtain ⟨q1,q2⟩:=WF hp1;have hk5:=(zZ (Dh h5 _ q1 _ q2)).2.2.2.1 hk;have SM:aM g.F9 v.name=some v:=by
   obtain ⟨u,hu1,hu2,hu3⟩:=Jj (g:=g) (nm:=v.name) (List.find?_isSome.2 ⟨v,hv,TcD⟩);rw [hu3];congr 1
   obtain ⟨i,hi⟩:=fc hu1;obtain ⟨j,hj⟩:=fc hv;have ho:∀ (j:Nat) (x:ay),g.F9[j]?=some x->yH g j x=0:=fun j x hx=>by
    have:=ll (i:=0) h3 j x hx;rwa [eJ] at this
   rcases Nat.lt_trichotomy i j with q | q | q
   ·have:=((Hz (ho j v hj)).2.1 i u q hi).1;rw [hu2] at this;simp at this
   ·subst q;rw [hi] at hj;injection hj
   have:=((Hz (ho i u hi)).2.1 j v q hj).1;rw [hu2] at this;simp at this
  rw [e,SM] at hk5;exact hk5
 cases hp2
def Cw (l:List aB):Int:=l.foldl (fun n s=>n+s.length) 0
theorem GI (h:l[k]?=some s):Cw (l.take (k+1))=Cw (l.take k)+s.length:=Be (fun (n:Int) (s:aB)=>n+s.length) 0 l k s h
theorem I5 {n:Nat}(h:qV ext n l 0=0):∀ (k:Nat),k<=l.length->qV ext n (l.drop k) (Cw (l.take k))=0
 | 0,_=>by simpa [Cw] using h
 | k+1,hk=>by
  have ih:=I5 h k TcC;obtain ⟨s,hs⟩:=aj l k TcC;rw [CP hs] at ih;rw [GI hs];split at ih
  ·cases ih
  split at ih
  ·cases ih
  exact ih
theorem Kv (h4:(iP g).2=0)(hv:v∈g.F9)(hs:v.Gf[k]?=some s):bJ g.Gd s (Cw (v.Gf.take k))=true/\(1<v.Gf.length->(oO s.kind).several=true):=by
 have h0:qV g.Gd v.Gf.length v.Gf 0=0:=sS h4 v hv;have:=I5 h0 k (by have:=(List.getElem?_eq_some_iff.1 hs).1;omega);rw [CP hs] at this;split at this
 ·cases this
 rename_i c1;split at this
 ·cases this
 rename_i c2;refine ⟨by simpa using c1,fun h=>?_⟩;cases hq:(oO s.kind).several with
 | true=>rfl
 | false=>exact absurd ⟨h,hq⟩ c2
theorem I7 (h:∀ s∈l,0<=s.length/\s.length<=32768):∀ k,0<=Cw (l.take k)/\Cw (l.take k)<=32768*(k:Int)
 | 0=>by simp [Cw]
 | k+1=>by
  have ih:=I7 h k;by_cases hk:k<l.length
  ·obtain ⟨s,hs⟩:=aj l k hk;have:=h s (ct hs);rw [GI hs];omega
  rw [jz TcC] at ih ⊢;omega
theorem Ja (h:eZ v=6):∃ s,v.Gf=[s]/\s.kind=6:=by
 unfold eZ at h
 match hv:v.Gf,h with
 | [s],h=>exact ⟨s,rfl,h⟩
theorem JY (h7:(pE g).2=0){i:Nat}{x:ay}(hki:k<i)(hv:g.F9[i]?=some v)(hx:g.F9[k]?=some x){t:aB}(hs:v.Gf=[s])(ht:x.Gf=[t])(hs6:s.kind=6)(ht6:t.kind=6) :
  s.pool≠t.pool\/s.device≠t.device:=by
 have h2:(bD IW [] (aA g.F9)).2=0:=by
  unfold pE at h7;split at h7
  ·exact h7
  rename_i c;exact absurd h7 c
 have e1:g.F9=g.F9.take i++v :: g.F9.drop (i+1):=by
  rw [<- drop_at hv,rk]
 have e2:aA g.F9=aA (g.F9.take i)++(v,s) :: aA (g.F9.drop (i+1)):=by
  conv=>lhs;rw [e1]
  simp [aA,hs]
 have:=Hd h2 _ _ v s e2;unfold IW at this;rw [aw hs6] at this;by_cases c:s.pool=t.pool/\s.device=t.device
 ·exfalso
  rw [aw] at this
  ·cases this
  rw [nh];refine ⟨(x,t),?_,by simp [ht6,c.1,c.2]⟩;refine P9 _ (List.mem_flatMap.2 ⟨x,?_,List.mem_map.2 ⟨t,by rw [ht];exact List.mem_singleton_self _,rfl⟩⟩);exact ct (i:=k) (by rw [ri hki];exact hx)
 by_cases cp:s.pool=t.pool
 ·exact .inr fun q=>c ⟨cp,q⟩
 exact .inl cp
theorem JQ (h:sU g)(i k:Nat)(p q:gy)(hki:k<i)(hp:(pieces g.F9)[i]?=some p)(hq:(pieces g.F9)[k]?=some q)(hd:p.disk=q.disk):q.start+q.len<=p.start:=by
 have hr:=h.apart.1.row;rw [List.pairwise_iff_getElem] at hr;obtain ⟨hi,ei⟩:=List.getElem?_eq_some_iff.1 hp;obtain ⟨hk,ek⟩:=List.getElem?_eq_some_iff.1 hq;have hi':i<(triples g.F9).length:=by simpa [triples] using hi
 have hk':k<(triples g.F9).length:=by simpa [triples] using hk
 have:=hr k i hk' hi' hki;simp only [triples,List.getElem_map,af7] at this;rw [ei,ek] at this;exact this hd.symm
theorem JN (h:sU g):∀ p∈pieces g.F9,(0<=p.start/\p.start<=1000000)/\1<=p.len/\p.len<=1000000:=fun p hp=>by
 obtain ⟨D,hD,-,h1,h2,h3⟩:=h.apart.1.on (af7 p) (List.mem_map.2 ⟨p,hp,rfl⟩);simp only [af7] at h1 h2 h3;have:=(Fb h.gin h.mchk).de D hD;omega
theorem TbJ {p:Prop}(h:p:=by
 rw [bh TcF] at hc;simp only [eh,fk] at hc;exact .inr ⟨Tc6,Tc6,.inr ⟨Tc6,hc⟩⟩):p:=h
theorem Kl (g:af)(a:bN)(s:aB)(x:eX)(u:List Value)(w:World)(hv:bC ok w u s)(hx:shapeOf s.kind=some x)(hc:fq g.Gd s.chunk x=true)(h0:¬ x.chunk=0)(he:1<=g.Gd/\g.Gd<=1024) :
  Calls prog 125 #[.agg (Tad g a),.agg u.toArray] w fun e w'=>e=.returned (.bool true)/\Below w.heap.size w w':=by
 obtain ⟨av,Oz,rfl,py,hst⟩:=hv;obtain ⟨ap,ac,rfl,_,_⟩:=py.cap;obtain ⟨eN,eR,rfl,_,_⟩:=hst.cap;clear py hst;have hA1:=ae w (.cells (Tad g a) 31);have hA2:=ae (w.alloc (.cells (Tad g a) 31)) (.cells (Tae s ap ac eN eR) 114);have hN1:=b9 w (.cells (Tad g a) 31);have lj:=aa (b9 (w.alloc (.cells (Tad g a) 31)) (.cells (Tae s ap ac eN eR) 114));have CN:=aa ((hA2.block _ (aq hN1)).trans hN1);have HB:=aa (hA1.trans (hA2.mono hA1.size));clear hA1 hA2 hN1;rw [cW] at lj;go_enter func125,ntmps125
 go_upto_region 1 with (fail);generalize World.alloc (World.alloc w _) _=W1 at *;generalize hE1:w.heap.size+1=Bs at lj ⊢;generalize hE0:w.heap.size=Bg at CN ⊢;have sL:=mi lj.o;have s2:=sL 2 _ rfl;have s4:=sL 4 _ rfl;have g3:=mi CN.o 3 _ rfl;clear sL;have hcs:((s.kind == 2)=true\/(s.kind == 2)=false/\(s.kind == 4)=true)/\1<=s.chunk/\s.chunk<=g.Gd/\g.Gd.tmod s.chunk=0\/(s.kind == 2)=false/\(s.kind == 4)=false/\((s.kind == 3)=true/\1<=s.chunk/\s.chunk<=1024\/(s.kind == 3)=false/\1<=s.chunk/\s.chunk<=64):=by
  unfold fq at hc;rw [bh h0] at hc;have hd:∀ c:Int,(decide (1<=s.chunk)&&g.Gd % s.chunk == 0)=true->1<=s.chunk/\s.chunk<=g.Gd/\g.Gd.tmod s.chunk=0:=fun _ h=>by
   simp only [eh,fk,beq_iff_eq] at h;refine ⟨h.1,Int.le_of_dvd TcC (Int.dvd_of_emod_eq_zero h.2),?_⟩;rw [Int.tmod_eq_emod_of_nonneg TcC];exact h.2
  rcases pM hx with h | h | h | h | h | h | h | h | h | h <;> rw [h] at hx <;> injection hx with hx <;> subst hx
  ·exact absurd rfl h0
  ·rw [aw rfl] at hc;exact .inl ⟨.inl Tc5,hd 0 hc⟩
  ·rw [bh TcF] at hc;simp only [eh,fk] at hc;exact .inr ⟨Tc6,Tc6,.inl ⟨Tc6,hc⟩⟩
  ·rw [aw rfl] at hc;exact .inl ⟨.inr ⟨Tc6,Tc6⟩,hd 0 hc⟩
  ·exact TbJ
  ·exact absurd rfl h0
  ·exact TbJ
  ·exact absurd rfl h0
  ·exact absurd rfl h0
  exact absurd rfl h0
 clear hc h0 hx hE1 hE0;rcases hcs with ⟨k2 | ⟨k2,k4⟩,c1,c2,c3⟩ | ⟨k2,k4,⟨k3,c1,c2⟩ | ⟨k3,c1,c2⟩⟩
 all_goals
  exact Tco
theorem JF (k:Int)(x:eX)(w:World)(hx:shapeOf k=some x) :
  Calls prog 77 #[.int .i64 k] w fun e w'=>e=.returned (.bool x.several)/\w'=w:=by
 rcases pM hx with rfl | rfl | rfl | rfl | rfl | rfl | rfl | rfl | rfl | rfl
 all_goals
  injection hx with hx;subst hx;go_enter func77,ntmps77;go_wp2;go_ret;exact ⟨rfl,rfl⟩
theorem DR {ops:Array Oper}{C:World->Prop}{Qn:Act->Prop}(hQ:∀ a w,C w->Qn a->Q .normal a w) :
  ∀ (l:List Oper) (a:Act) (w:World),C w->wpQuiet P ops C Qn l a->wpList P ops Q l a w
 | [],a,w,hw,h=>hQ a w hw h
 | o :: rest,a,w,hw,h=>by
  unfold wpQuiet at h;unfold wpList;split at h
  ·rename_i ar6;rw [aw ar6];exact .inl (Oper.wp_of_quiet hw (fun a w' hw' hk=>DR hQ rest a w' hw' hk) h)
  rename_i ar6;rw [bh ar6];exact DR hQ rest _ w hw h
theorem wp_region_quiet_lit {id:Nat}{a:Act}{w:World}{l:List Oper}
  (h:wpQuiet P l.toArray (fun w'=>∃ p:fo,w'=YtaagglbgohjldaaGreatDoor.ext w p) (fun a'=>∀ w',(∃ p:fo,w'=YtaagglbgohjldaaGreatDoor.ext w p)->Q .normal a' w') l a):(Code.region id l.toArray false).wp P Q a w :=
 wp_region_lit (DR (fun _ w' hw hq=>hq w' hw) l a w (jX (bj _ w)) h)
end Go.Proofs.YtaagglbgohjldaaGreatDoor
