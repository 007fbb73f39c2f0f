/- Lemmas: MoL, MoF, MoI, MoK, MoN, MoP, MoY. -/
import Derived.Test.YtillcmhjhajimaaGreatDoorQj16
import Derived.Test.YtillcmhjhajimaaGreatDoorQj20
set_option maxRecDepth 100000
set_option maxHeartbeats 32000000
set_option linter.all false
namespace Go.Proofs.YtillcmhjhajimaaGreatDoor
open Go.Proofs.Tryz
open Go.RowKit Go.Maps Go.Shelf
variable {g:af}{k:Nat}
def OkM(w:World)(e:Ending)(w':World):Prop:=e=.returned (.tuple #[.string ⟨#[]⟩,.int .i64 0])/\Below w.heap.size w w'
theorem Bo{ok:Nat->Prop}(g:af)(a:bN)(bc:Nat)(w:World)(kB:gY w bc g a)(hg:dN ok w g a)(hz:JT g)(hx:1<=g.Gd/\g.Gd<=1024)(TY:Ct g)(MO:∀v∈g.F9,∀(k:Nat) (s:aB),v.Gf[k]?=some s->bJ g.Gd s (Cw (v.Gf.take k))=true/\(1<v.Gf.length->(oO s.kind).several=true))(GF:∀v∈g.F9,∀s∈v.Gf,wM s) :
  Calls prog 74 #[.pointer (some bc)] w (OkM w):=by
 have MD:=aa MO;clear MO;have WG:=aa GF;clear GF;have jt:=kB.lt;have I3:=aa kB;obtain⟨sm,hblk,hmap⟩:=kB;have nw:Hid (bX w bc sm g a):=aa hblk;have VF:Hid (w.cell? (Tac bc 9)=some (.map (some sm))):=aa (by simp[World.cell?,hblk]);have Qk:=aa hmap;clear hblk hmap;obtain⟨g0,g1,g2,g3,g4,g5,g6,g7,g8⟩:=bX.cells nw.o;have HG:=aa hg.F9;have HZ:=aa hz;have HX:=aa hx;have HKW:=aa TY;have mb:=hz.vl;obtain⟨vp,vc,sT,ao8,ap0⟩:=hg.F9.cap;clear hg hz hx TY;injection sT with e1 e2 e3;obtain⟨ID,TJ,TK,G3,G4,Ge,Hb,Hc⟩:=a;dsimp only at e1 e2 e3 g0 g1 g2 g3 g4 g5 g6 g7 g8;subst e1;subst e3;clear e2;go_enter func74,ntmps74;go_wp2;clear g0 g1 g2 g3 g4 g5 g6 g7 g8
 go_loopw[15] (fun i wr=>∃k:Nat,k<=g.F9.length/\i=.int .i64 k/\Below w.heap.size w wr) (fun i _=>g.F9.length-(intOf i).toNat)
 exact⟨0,cg _,rfl,bj _ _⟩;obtain⟨k,hk,rfl,hB⟩:=hrel;by_cases hlt:k<g.F9.length
 ·obtain⟨v,hv⟩:=aj g.F9 k hlt;obtain⟨b,off,us,rfl,gR,cX,ez,eE,hcv⟩:=HG.o.elem hv;have Zr:=ct hv;have hvz:=HZ.o.vz v Zr;have GF:=hvz.Gf;have B6:=aa hvz.seg;have HKV:=aa (HKW.o v Zr);have Ux:=aa (MD.o v Zr);have HBD:=aa (I7 (l:=v.Gf) fun s hs=>⟨by have:=(WG.o v Zr s hs).l0;omega,(WG.o v Zr s hs).l1⟩);obtain⟨tv,sv,rfl,ew,fL⟩:=eE;obtain⟨tp,tc,rfl,_,_⟩:=ew.cap;obtain⟨sp,sc,rfl,hsc1,hsc2⟩:=fL.cap;have cT:wr.heap[b]?=w.heap[b]?:=hB.block b cX;obtain⟨q0,q1,q2,q3,q4,q5⟩:=NG cT hcv;have HV:=aa hv;clear hv;have Zv:=aa fL;clear hcv ez cT ew fL hvz Zr;have zv:=aa (b9 wr (.cells (Taf v tp tc sp sc) 57));have cU:=aa (hB.trans ((ae wr (.cells (Taf v tp tc sp sc) 57)).mono hB.size));have mA:=hB.size;go_wp2;clear q0 q1 q2 q3 q4 q5;generalize hW1:World.alloc wr _=W1 at *;generalize XK:wr.heap.size=Bv at *;clear hW1 XK hB;go_loopw[22,6] (fun i st wi=>∃j:Nat,j<=v.Gf.length/\i=.int .i64 j/\st=.int .i64 (Cw (v.Gf.take j))/\Below w.heap.size w wi/\wi.heap[Bv]?=some (.cells (Taf v tp tc sp sc) 57 (0,0))) (fun i _ _=>v.Gf.length-(intOf i).toNat)
  exact⟨0,cg _,rfl,rfl,cU.o,zv.o⟩;clear cU zv;obtain⟨j,hj,rfl,rfl,hB,vA⟩:=hrel;have XI:=HBD.o j;have zv:=aa vA;clear vA;by_cases hlt2:j<v.Gf.length
  ·obtain⟨s,hs⟩:=aj v.Gf j hlt2;have HST:=aa (GI hs);have hfm:=Ux.o j s hs;have HF1:=aa hfm.1;have HF2:=aa hfm.2;clear hfm;have aF1:=WG.o v (ct HV.o) s (ct hs);have aa5:=aF1.l0;have aa6:=aF1.l1;clear aF1;generalize Cw (v.Gf.take j)=t at *;obtain⟨b2,off2,us2,hsp,I0,C2,B5,C3,hcv2⟩:=Zv.o.elem hs;subst hsp;have HSV:=aa C3;have hsm:=ct hs;have hsz:=B6.o s hsm;have hsz1:=hsz.1;have hsz2:=hsz.2;have Yq:=aa (HKV.o s hsm);obtain⟨av,Oz,rfl,mC,hst⟩:=C3;obtain⟨ap,ac,rfl,_,_⟩:=mC.cap;obtain⟨eN,eR,rfl,_,_⟩:=hst.cap;have AD:wr.heap[b2]?=w.heap[b2]?:=hB.block b2 C2;obtain⟨q0,q1,q2,q3,q4,q5,q6,q7,q8,q9,q10⟩:=ak5 AD hcv2;clear hs hsm hsz hcv2 B5 AD mC hst;have lj:=aa (b9 wr (.cells (Tae s ap ac eN eR) 88));have hA:=ae wr (.cells (Tae s ap ac eN eR) 88);have cm:=aa (hB.trans (hA.mono hB.size));have J0:=Zbk hA zv;clear hA;go_wp2_with fail;clear q0 q1 q2 q3 q4 q5 q6 q7 q8 q9 q10;generalize hW2:World.alloc wr _=W2 at *;generalize XL:wr.heap.size=Bs at *;clear hW2 XL;refine(Lm (ok:=ok) g _ bc s t _ W2 (I3.o.below cm.o) (by have:=HX.o.1;omega) (by have:=HX.o.2;omega) (bC.moves.mv (Mv.of cm.o) HSV.o) hsz1 hsz2 Yq.o HF1.o).mono ?_;rintro e w3 ⟨rfl,hb3⟩;have cJ:=Zbl cm hb3;have pZ:=Zbk hb3 J0;have nB:=Zbk hb3 lj;clear hb3;have n0:=cr pZ.o 0 _ rfl;have n5:=cr pZ.o 5 _ rfl;have s1:=cr nB.o 1 _ rfl;have s2:=cr nB.o 2 _ rfl;have c9:=(cJ.o.cell (p:=⟨bc,9,none⟩) jt).trans VF.o;by_cases h1:1<v.Gf.length
   ·have hlk:∀n,(Instr.lookup 118 (.map (some sm)) (.int .i64 s.kind) false).run prog (w3.drewN n)=.ok (jR (oO s.kind)) (w3.drewN n):=fun n=>by
     have hm:bi prog 3 (w3.drewN n) sm 10 eH:=Qk.o.block (cJ.o.block _ Qk.o.lt);have:=(hm.look pF underlying118 (uG _) (lA underlying3 Yq.o)).1;rwa[uA]at this
    have Xi:=aa (HF2.o h1);generalize hxs:oO s.kind=x at *;have hlk':∀n,(Instr.lookup 118 (.map (some sm)) (.int .i64 s.kind) false).run prog (w3.drewN n)=.ok (.agg (Tal x)) (w3.drewN n):=hlk;clear hlk hxs;have N4:=vw x;have hd1:decide ((1:Int)<(v.Gf.length:Int))=true:=by simp;omega
    go_upto_region 10 with(fail);go_quiet (fail);clear hlk' N4;clear h1 hd1;cases hsv:x.several with
    |false=>exact absurd (hsv.symm.trans Xi.o) TcQ
    |true =>
     clear hsv;go_wp2;go_roundw;exact⟨j+1,TcN,TcR,by rw[HST.o],aT cJ.o _,pZ.o⟩;simp[intOf];omega
   have hd1:decide ((1:Int)<(v.Gf.length:Int))=false:=by simp;omega
   go_upto_region 10 with(fail);go_quiet (fail);go_wp2;go_roundw
   exact⟨j+1,TcN,TcR,by rw[HST.o],aT cJ.o _,pZ.o⟩;simp[intOf];omega
  obtain rfl:j=v.Gf.length:=by omega
  go_wp2;go_roundw;exact⟨k+1,TcN,TcR,hB⟩;simp[intOf];omega
 obtain rfl:k=g.F9.length:=by omega
 go_wp2;go_ret2;exact⟨rfl,hB⟩
theorem A9{ok:Nat->Prop}(g:af)(a:bN)(bc:Nat)(s:aB)(u:List Value)(w:World)(kB:gY w bc g a)(hg:dN ok w g a)(hz:JT g)(hv:bC ok w u s)(ha:s.Ga.length<=1000000)(he:jw g s=true) :
  Calls prog 120 #[.pointer (some bc),.agg u.toArray] w fun e w'=>e=.returned (.bool true)/\Below w.heap.size w w':=by
 have jt:=kB.lt;have HV:=aa hv;obtain⟨av,Oz,rfl,mC,hst⟩:=hv;obtain⟨ap,ac,rfl,aq0,aq1⟩:=mC.cap;obtain⟨eN,eR,rfl,hsc1,hsc2⟩:=hst.cap;have ya:=aa mC;clear mC hst;obtain⟨sm,hblk,TZ⟩:=kB;have nw:Hid (bX w bc sm g a):=aa hblk;clear hblk TZ;have HG:=aa hg;clear hg;have HZ:=aa hz;clear hz;have cU:=aa (ae w (.cells (Tae s ap ac eN eR) 88));unfold jw at he;rw[eh]at he;have HE:=aa he;clear he;go_enter func120,ntmps120;go_wp2
 go_loopw[16] (fun i wr=>∃k:Nat,k<=s.Ga.length/\i=.int .i64 k/\Below w.heap.size w wr/\wr.heap[w.heap.size]?=some (.cells (Tae s ap ac eN eR) 88 (0,0))) (fun i _=>s.Ga.length-(intOf i).toNat)
 exact⟨0,cg _,rfl,cU.o,b9 w _⟩;obtain⟨k,hk,rfl,hB,PX⟩:=hrel;have Fc:=aa PX;clear PX;by_cases hlt:k<s.Ga.length
 ·obtain⟨r,hr⟩:=aj s.Ga k hlt;obtain⟨b,off,us,rfl,_,cX,ez,eE,hcv⟩:=ya.o.elem hr;obtain rfl:us=_:=eE;have cT:wr.heap[b]?=w.heap[b]?:=hB.block b cX;obtain⟨q0,q1,q2⟩:=Mn cT hcv;have HR:=aa hr;clear hr;clear hcv ez cT;go_upto_region 4 with(fail);clear q0 q1 q2;have ox:=aa (b9 wr (.cells (Tau r) 83));have eK:=aa (hB.trans ((ae wr (.cells (Tau r) 83)).mono hB.size));have O2:=aa ((cj wr (.cells (Tau r) 83) _ (aq Fc.o)).trans Fc.o);have mA:=hB.size;generalize hW5:World.alloc wr _=W5 at *;generalize XL:wr.heap.size=Bs at *;clear hW5;refine sM (ok:=ok) _ W5 g a bc sm Bs r.on ((eK.o.block bc jt).trans nw.o) (by simp[World.cell?,ox.o]) (aq ox.o) (HG.o.mv (Mv.of eK.o)) HZ.o _ _ rfl rfl (aa ?_) (fun _ _ _ _ _ h=>h);intro tp tc b7 W7 hb7 hbz _ _;have ux:=Zbl eK hb7;have Rk:=Zbk hb7 O2;have as5:=(hb7.block _ (aq ox.o)).trans ox.o;have v0:=cr as5 0 _ rfl;clear hb7 hbz as5 ox eK O2;have hq:=List.all_eq_true.1 HE.o.1 r (ct HR.o);generalize N4:(bH g.Gb r.on).isSome=fd at *;generalize Na:r.vol=rv at *;clear N4 Na;cases rv
  all_goals
   simp only[nj,Bool.true_or]at hq
   try subst hq
   go_wp2;go_roundw;exact⟨k+1,TcN,TcR,ux.o,Rk.o⟩;simp[intOf];omega
 have yL:=cr Fc.o;obtain⟨y0,y1,y2,y3,y4,y5,y6,y7,y8,y9,y10⟩:=IC yL;have Vx:=aa hB;go_wp2_with fail;clear y0 y1 y2 y3 y4 y5 y6 y7 y8 y9 y10 yL;refine(kN (ok:=ok) s true _ _ (bC.moves.mv (Mv.of Vx.o) HV.o) ha).mono ?_;rintro e w3 ⟨uv,rfl,how,hb3⟩;have kf:=how.rd (ok:=fun _=>True) (fun _ _=>trivial);obtain⟨up,uc,rfl,O3,O4⟩:=kf.cap;have B2:=aa kf;clear kf how;have cJ:=Zbl Vx hb3;clear hb3;have ez:(dD s true).length<=1000002:=oL s true ha;have VB:=aa HE.o.2;generalize hL:dD s true=L at *;clear hL;go_wp2;go_loopw[41] (fun i wr=>∃k:Nat,k<=L.length/\i=.int .i64 k/\Below w3.heap.size w3 wr) (fun i _=>L.length-(intOf i).toNat)
 exact⟨0,cg _,rfl,bj _ _⟩;obtain⟨k,hk,rfl,hB⟩:=hrel;by_cases hlt:k<L.length
 ·obtain⟨x,hx⟩:=aj L k hlt;obtain⟨b,off,us,rfl,_,cX,TE,eE,hcv⟩:=B2.o.elem hx;obtain rfl:us=_:=eE;have q0:=(hB.cell (p:=⟨b,off+k*1+0,none⟩) cX).trans (hcv 0 _ rfl);rw[fp,fg]at q0;have HX:=aa hx;clear hx;have fy:=Zbl cJ hB;obtain⟨g0,g1,g2,g3,g4,g5,g6,g7,g8⟩:=bX.cells (sm:=sm) ((fy.o.block bc jt).trans nw.o);clear hcv TE;go_wp2_with fail;clear g0 g1 g2 g3 g4 g5 g6 g7 g8;refine(fA (ok:=ok) g a x _ (HG.o.mv (Mv.of fy.o)).F9 HZ.o.vl HZ.o.vz).mono ?_;rintro e w5 ⟨u5,rfl,⟨t5,s5,rfl,ht5,hs5⟩,hb5⟩;obtain⟨tp5,tc5,rfl,_,_⟩:=ht5.cap;obtain⟨sp5,sc5,rfl,_,_⟩:=hs5.cap;clear ht5 hs5;have hB5:Below w3.heap.size w3 w5:=hB.trans (hb5.mono hB.size);have eK:=aa hB5;have hq:=List.all_eq_true.1 VB.o x (ct HX.o);generalize N4:(aM g.F9 x).isSome=fd at *;generalize (aM g.F9 x).getD eY=vx at *;clear N4 hb5;subst hq;go_wp2;go_roundw;exact⟨k+1,TcN,TcR,eK.o.alloc eK.o.size _⟩;simp[intOf];omega
 have fy:=Zbl cJ hB;exact Tcu
theorem LQ{ok:Nat->Prop}(v:ay)(s:aB)(u1 u2:List Value)(w:World)(hv:aN ok w u1 v)(hs:bC ok w u2 s)(ha:s.Ga.length<=1000000)(hS:AW w)(UL:v.name.size<=1000000000)(h5:s.kind=5->2<=s.Ga.length)(h7:s.kind=7->3<=s.Ga.length)(pD:jS v s=true) :
  Calls prog 121 #[.agg u1.toArray,.agg u2.toArray] w fun e w'=>e=.returned (.bool true)/\Below w.heap.size w w':=by
 have My:=aa hv;have HSV:=aa hs;obtain⟨tv,sv,rfl,ew,fL⟩:=hv;obtain⟨tp,tc,rfl,_,_⟩:=ew.cap;obtain⟨sp,sc,rfl,_,_⟩:=fL.cap;obtain⟨av,Oz,rfl,mC,hst⟩:=hs;obtain⟨ap,ac,rfl,aq0,aq1⟩:=mC.cap;obtain⟨eN,eR,rfl,hsc1,hsc2⟩:=hst.cap;clear ew fL mC hst;have Nb:=aa hS;clear hS;have H5:=aa h5;clear h5;have H7:=aa h7;clear h7;have hb2:=(ae w (.cells (Taf v tp tc sp sc) 57)).trans ((ae (w.alloc (.cells (Taf v tp tc sp sc) 57)) (.cells (Tae s ap ac eN eR) 88)).mono (ae w _).size);have Yo:VS ok ((w.alloc (.cells (Taf v tp tc sp sc) 57)).alloc (.cells (Tae s ap ac eN eR) 88)) w.heap.size (w.heap.size+1) v s:=by
  refine⟨⟨_,(cj _ _ _ TcO).trans (b9 w _),aN.moves.mv (Mv.of hb2) My.o⟩,⟨_,?_,bC.moves.mv (Mv.of hb2) HSV.o⟩⟩;exact TbQ
 have cm:=aa hb2;clear hb2;have XU:=aa Yo;clear Yo;have HF:Hid (_=true):=aa ((jS.eq_1 v s).symm.trans pD);clear pD;have s0:∀wr:World,wr.heap[w.heap.size+1]?=((w.alloc (.cells (Taf v tp tc sp sc) 57)).alloc (.cells (Tae s ap ac eN eR) 88)).heap[w.heap.size+1]?->wr.heap[w.heap.size]?=((w.alloc (.cells (Taf v tp tc sp sc) 57)).alloc (.cells (Tae s ap ac eN eR) 88)).heap[w.heap.size]?->wr.cell? (Tac (w.heap.size+1) 2)=some (.int .i64 s.kind)/\wr.cell? (Tac (w.heap.size+1) 6)=some (.string s.log)/\wr.cell? w.heap.size=some (.string v.name):=fun wr h1 h0=>by
  have e1:wr.heap[w.heap.size+1]?=some (.cells (Tae s ap ac eN eR) 88 (0,0)):=by
   rw[h1];exact TbQ
  have e0:wr.heap[w.heap.size]?=some (.cells (Taf v tp tc sp sc) 57 (0,0)):=h0.trans ((cj _ _ _ TcO).trans (b9 w _));exact⟨cr e1 _ _ rfl,cr e1 _ _ rfl,cr e0 _ _ rfl⟩
 have HS0:=aa s0;clear s0;by_cases k34:s.kind=3\/s.kind=4
 ·rw[aw k34]at HF;have Ro:=aa (Bool.and_eq_true_iff.1 HF.o);clear HF;have hk:(s.kind==3)=true\/((s.kind==3)=false/\(s.kind==4)=true):=by
   rcases k34 with h|h
   ·exact .inl Tdc
   exact .inr ⟨Tdd,Tdc⟩
  clear k34;rcases hk with k3|⟨k3,k4⟩
  all_goals
   go_enter func121,ntmps121;have s3:((w.alloc (.cells (Taf v tp tc sp sc) 57)).alloc (.cells (Tae s ap ac eN eR) 88)).cell? (Tac (w.heap.size+1) 3)=some (.slice ap s.Ga.length ac):=aD TcO rfl;go_wp2;generalize hW2:World.alloc (World.alloc w _) _=W2 at *;clear hW2 s3
   go_loopw[18] (fun i wr=>∃k:Nat,k<=s.Ga.length/\i=.int .i64 k/\VS ok wr w.heap.size (w.heap.size+1) v s/\Below w.heap.size w wr/\wr.heap[w.heap.size+1]?=W2.heap[w.heap.size+1]?/\wr.heap[w.heap.size]?=W2.heap[w.heap.size]?/\w.heap.size+1<wr.heap.size) (fun i _=>s.Ga.length-(intOf i).toNat)
   exact⟨0,cg _,rfl,XU.o,cm.o,rfl,rfl,by obtain⟨⟨_,_,_⟩,⟨_,h,_⟩⟩:=XU.o;exact aq h⟩;obtain⟨k,hk,rfl,eE,hB,hw1,hw0,mA⟩:=hrel;have ao7:=aa eE;clear eE;have HW1:=aa hw1;clear hw1;have HW0:=aa hw0;clear hw0;by_cases hlt:k<s.Ga.length
   ·obtain⟨r,hr⟩:=aj s.Ga k hlt;have Vz:=aa (uD hr);have HR:=aa hr;clear hr;go_wp2_with fail;refine(rR (ok:=ok) v s k k r _ _ _ ao7.o HR.o (Nb.o.below hB) UL).mono ?_;rintro e w3 ⟨rfl,hb3⟩;have cJ:=aa (hB.trans (hb3.mono hB.size));have Rl:=aa (ao7.o.below hb3);have HW31:=aa ((hb3.block _ mA).trans HW1.o);have HW30:=aa ((hb3.block _ TcN).trans HW0.o);have HZ3:Hid (w.heap.size+1<w3.heap.size):=aa (cC mA hb3.size);clear hb3;have hq:=Ro.o.1;unfold vU at hq;replace hq:=List.all_eq_true.1 hq k (List.mem_range.2 hlt);rw[Vz.o]at hq;generalize dM v.name (bf k) r.on=qq at *;subst hq;go_wp2;go_roundw;exact⟨k+1,TcN,TcR,Rl.o,cJ.o,HW31.o,HW30.o,HZ3.o⟩;simp[intOf];omega
   obtain⟨_,l6,n0⟩:=HS0.o wr HW1.o HW0.o
   cases hle:s.log.toList.isEmpty with
   |true =>
    go_wp2;go_ret;exact⟨rfl,hB⟩
   |false =>
    have HR:Hid (dM v.name (dH 1) s.log=true):=aa (by have:=Ro.o.2;rwa[hle,nj]at this);have HC:=aa (fun W hW=>wC v.name.data.toList 1 W (by simpa using UL) (Nb.o.below hW));rw[<- bytes_eta]at HC;go_wp2_with fail;refine(HC.o _ hB).mono ?_;rintro e w3 ⟨rfl,hb3⟩;have cJ:=aa (hB.trans (hb3.mono hB.size));have l6':=(hb3.cell (p:=⟨w.heap.size+1,6,none⟩) mA).trans l6;clear hb3 l6;go_wp2_with fail;refine(mJ _ _ _ _).mono ?_;rintro e w4 ⟨rfl,rfl⟩;go_wp2;go_ret;exact⟨ah HR.o,cJ.o⟩
 rw[bh k34]at HF;have k3:(s.kind==3)=false:=by simp;omega
 have k4:(s.kind==4)=false:=by simp;omega
 by_cases k5:s.kind=5
 ·rw[aw k5]at HF;have hl:=H5.o k5;have k5b:(s.kind==5)=true:=by simpa using k5
  obtain⟨r0,hr0⟩:=aj s.Ga 0 TcN;obtain⟨r1,hr1⟩:=aj s.Ga 1 TcN;rw[uD hr0,uD hr1]at HF;clear k5 k34;go_enter func121,ntmps121
  go_wp2_with fail;generalize hW2:World.alloc (World.alloc w _) _=W2 at *;clear hW2;refine(kg (ok:=ok) v s 0 3 r0 _ _ _ XU.o hr0 (Nb.o.below cm.o) UL).mono ?_;rintro e w3 ⟨rfl,hb3⟩;have ao7:=aa (XU.o.below hb3);have cJ:=Zbl cm hb3;clear hb3;have Ro:=aa (Bool.and_eq_true_iff.1 HF.o);rw[Ro.o.1];go_wp2_with fail;refine(kg (ok:=ok) v s 1 2 r1 _ _ _ ao7.o hr1 (Nb.o.below cJ.o) UL).mono ?_;rintro e w4 ⟨rfl,hb4⟩;have O5:=aa (ao7.o.below hb4);have eI:=Zbl cJ hb4;clear hb4;rw[Ro.o.2];go_wp2;go_ret;exact⟨rfl,eI.o⟩
 rw[bh k5]at HF;have k5b:(s.kind==5)=false:=by simpa using k5
 by_cases k7:s.kind=7
 ·rw[aw k7]at HF;have hl:=H7.o k7;have k7b:(s.kind==7)=true:=by simpa using k7
  obtain⟨r0,hr0⟩:=aj s.Ga 0 TcN;obtain⟨r1,hr1⟩:=aj s.Ga 1 TcN;obtain⟨r2,hr2⟩:=aj s.Ga 2 TcN;rw[uD hr0,uD hr1,uD hr2]at HF;clear k7 k34 k5;go_enter func121,ntmps121
  go_wp2_with fail;generalize hW2:World.alloc (World.alloc w _) _=W2 at *;clear hW2;refine(rR (ok:=ok) v s 0 0 r0 _ _ _ XU.o hr0 (Nb.o.below cm.o) UL).mono ?_;rintro e w3 ⟨rfl,hb3⟩;have ao7:=aa (XU.o.below hb3);have cJ:=Zbl cm hb3;clear hb3;have Ro:=aa (Bool.and_eq_true_iff.1 HF.o);have HFG:=aa (Bool.and_eq_true_iff.1 Ro.o.1);rw[HFG.o.1];go_wp2_with fail;refine(kg (ok:=ok) v s 1 2 r1 _ _ _ ao7.o hr1 (Nb.o.below cJ.o) UL).mono ?_;rintro e w4 ⟨rfl,hb4⟩;have O5:=aa (ao7.o.below hb4);have eI:=Zbl cJ hb4;clear hb4;rw[HFG.o.2];go_wp2_with fail;refine(kg (ok:=ok) v s 2 3 r2 _ _ _ O5.o hr2 (Nb.o.below eI.o) UL).mono ?_;rintro e w5 ⟨rfl,hb5⟩;have Rl:=aa (O5.o.below hb5);have eK:=Zbl eI hb5;clear hb5;rw[Ro.o.2];exact TcL
 rw[bh k7]at HF;have k7b:(s.kind==7)=false:=by simpa using k7
 clear k7 k34 k5;go_enter func121,ntmps121;go_wp2;go_ret;exact⟨rfl,cm.o⟩
theorem sO{ok:Nat->Prop}(g:af)(a:bN)(bc Bc:Nat)(v:ay)(s:aB)(u1 u2:List Value)(w:World)(kB:gY w bc g a)(hcc:w.cell? Bc=some (.pointer (some bc)))(Hh:Bc<w.heap.size)(hg:dN ok w g a)(hz:JT g)(vu:∀d∈g.Gb,0<=d.Gc/\d.Gc<=1000000)
  (hv:aN ok w u1 v) (hs:bC ok w u2 s) (hf:wM s) (eE:qD v) (hS:AW w) (UL:v.name.size<=1000000000) (hre:mM g v s=0) (h6:s.kind=6->dD s false=[]) :
  Calls prog 119 #[.agg u1.toArray,.agg u2.toArray,.pointer (some Bc)] w fun e w'=>e=.returned (.int .i64 0)/\Below w.heap.size w w':=by
 have jt:=kB.lt;have My:=aa hv;have HSV:=aa hs;obtain⟨tv,sv,rfl,ew,fL⟩:=hv;obtain⟨tp,tc,rfl,_,_⟩:=ew.cap;obtain⟨sp,sc,rfl,_,_⟩:=fL.cap;obtain⟨av,Oz,rfl,mC,hst⟩:=hs;obtain⟨ap,ac,rfl,aq0,aq1⟩:=mC.cap;obtain⟨eN,eR,rfl,hsc1,hsc2⟩:=hst.cap;have ya:=aa mC;clear ew fL mC hst;have I3:=aa kB;obtain⟨sm,hblk,_⟩:=kB;have nw:Hid (bX w bc sm g a):=aa hblk;clear hblk;have HG:=aa hg;clear hg;have HZ:=aa hz;clear hz;have kj:=aa vu;clear vu;have Nb:=aa hS;clear hS;have O6:=aa hf;have hl0:=hf.l0;have hl1:=hf.l1;have aw2:=hf.ar;clear hf;have XH:=aa hcc;clear hcc;have hb2:=(ae w (.cells (Taf v tp tc sp sc) 57)).trans ((ae (w.alloc (.cells (Taf v tp tc sp sc) 57)) (.cells (Tae s ap ac eN eR) 88)).mono (ae w _).size);have h0:((w.alloc (.cells (Taf v tp tc sp sc) 57)).alloc (.cells (Tae s ap ac eN eR) 88)).heap[w.heap.size]?=some (.cells (Taf v tp tc sp sc) 57 (0,0)):=(cj _ _ _ TcO).trans (b9 w _);have h1:((w.alloc (.cells (Taf v tp tc sp sc) 57)).alloc (.cells (Tae s ap ac eN eR) 88)).heap[w.heap.size+1]?=some (.cells (Tae s ap ac eN eR) 88 (0,0)):=by
  exact TbQ
 have cm:=aa hb2;clear hb2;have H0:=aa h0;clear h0;have H1:=aa h1;clear h1;have c0:=(cm.o.cell (p:=Bc) Hh).trans XH.o;have HF:=aa (zZ hre);clear hre;go_enter func119,ntmps119
 go_wp2_with fail;generalize hW2:World.alloc (World.alloc w _) _=W2 at *;clear hW2 c0;refine(A9 (ok:=ok) g a bc s _ _ (I3.o.below cm.o) (HG.o.mv (Mv.of cm.o)) HZ.o (bC.moves.mv (Mv.of cm.o) HSV.o) TcN HF.o.1).mono ?_;rintro e w3 ⟨rfl,hb3⟩;have cJ:=Zbl cm hb3;have H03:=Zbk hb3 H0;have H13:=Zbk hb3 H1;clear hb3 H0 H1;have LI:∀wr:World,wr.heap[w.heap.size+1]?=some (.cells (Tae s ap ac eN eR) 88 (0,0))->∀(j:Nat) (z:Value),[.int .i64 s.start,.int .i64 s.length,.int .i64 s.kind,.slice ap s.Ga.length ac,.int .i64 s.chunk,.slice eN s.stale.length eR,.string s.log,.string s.pool,.int .i64 s.device,.int .i64 s.mode,.int .i64 s.done][j]?=some z->wr.cell? ⟨w.heap.size+1,j,none⟩=some z:=fun wr h j z hz=>by
  exact Tcr
 have Rm:∀wr:World,wr.heap[w.heap.size]?=some (.cells (Taf v tp tc sp sc) 57 (0,0))->∀(j:Nat) (z:Value),[.string v.name,.int .u64 v.id,.bool v.hidden,.bool v.ro,.slice tp v.tags.length tc,.slice sp v.Gf.length sc][j]?=some z->wr.cell? ⟨w.heap.size,j,none⟩=some z:=fun wr h j z hz=>by
  exact Tcr
 have SL:=aa LI;clear LI;have VL:=aa Rm;clear Rm;have s3:=SL.o w3 H13.o 3 _ rfl;go_wp2;clear s3;go_loopw[23] (fun i wr=>∃k:Nat,k<=s.Ga.length/\i=.int .i64 k/\Below w.heap.size w wr/\wr.heap[w.heap.size]?=some (.cells (Taf v tp tc sp sc) 57 (0,0))/\wr.heap[w.heap.size+1]?=some (.cells (Tae s ap ac eN eR) 88 (0,0))) (fun i _=>s.Ga.length-(intOf i).toNat)
 exact⟨0,cg _,rfl,cJ.o,H03.o,H13.o⟩;clear H03 H13 cJ;obtain⟨k,hk,rfl,hB,hx0,hx1⟩:=hrel;have H03:=aa hx0;clear hx0;have H13:=aa hx1;clear hx1;by_cases hlt:k<s.Ga.length
 ·obtain⟨r,hr⟩:=aj s.Ga k hlt;obtain⟨b,off,us,rfl,_,cX,ez,Tv,hcv⟩:=ya.o.elem hr;obtain rfl:us=_:=Tv;have cT:wr.heap[b]?=w.heap[b]?:=hB.block b cX;obtain⟨q0,q1,q2⟩:=Mn cT hcv;have HR:=aa hr;clear hr;clear hcv ez cT;go_upto_region 6 with(fail);clear q0 q1 q2;have ox:=aa (b9 wr (.cells (Tau r) 83));have eK:=aa (hB.trans ((ae wr (.cells (Tau r) 83)).mono hB.size));have H05:=aa ((cj wr (.cells (Tau r) 83) _ (aq H03.o)).trans H03.o);have H15:=aa ((cj wr (.cells (Tau r) 83) _ (aq H13.o)).trans H13.o);have mA:=hB.size;generalize hW5:World.alloc wr _=W5 at *;generalize XL:wr.heap.size=Bs at *;clear hW5;refine pI (ok:=ok) _ W5 g a bc sm Bs r.on Bc (cC Hh eK.o.size) ((eK.o.cell (p:=Bc) Hh).trans XH.o) ((eK.o.block bc jt).trans nw.o) (by simp[World.cell?,ox.o]) (aq ox.o) (HG.o.mv (Mv.of eK.o)) HZ.o _ _ rfl rfl (aa ?_) (fun _ _ _ _ _ h=>h);intro tp8 tc8 b8 W7 hb7 hb8 hblk8 _;have ux:=Zbl eK hb7;have H07:=Zbk hb7 H05;have H17:=Zbk hb7 H15;have as5:=(hb7.block _ (aq ox.o)).trans ox.o;have v0:=cr as5 0 _ rfl;have v2:=cr as5 2 _ rfl;have d3:=cr hblk8 3 _ rfl;have hdb:=Da (nm:=r.on) kj.o;clear hb7 hb8 hblk8 as5 ox eK H05 H15;have hai:=List.all_eq_true.1 HF.o.2.1 r (ct HR.o);unfold fI at hai;generalize (bH g.Gb r.on).getD gT=d at *;generalize (bH g.Gb r.on).isSome=dis at *;have hl7:=aq H17.o;cases Na:r.vol with
  |true =>
   rw[Na]at v0;clear hai;go_upto_region 7 with(fail);go_quiet (fail);go_wp2;go_roundw
   exact⟨k+1,TcN,TcR,aT ux.o _,H07.o,H17.o⟩;simp[intOf];omega
  |false =>
   rw[Na]at v0;rw[Na]at hai;simp only[nj,eh,fk]at hai;obtain⟨⟨c0,c1⟩,c2⟩:=hai;have y:=SL.o W7 H17.o;obtain⟨s0,s1,s2,s3,s4,s5,s6,s7,s8,s9,s10⟩:=IC y;have q0:decide (r.start<0)=false:=by simp;omega
   have q1:decide (d.Gc<r.start)=false:=by simp;omega
   have hw1:IntKind.i64.wrap (d.Gc-r.start)=d.Gc-r.start:=dy _ TcN;clear y;go_upto_region 7 with(fail);have ev0:=aG (cP W7 _ v0) v0;have ev2:=aG (cP W7 _ v2) v2;have ed3:=aG (cP W7 _ d3) d3;have es0:=aG (cP W7 _ s0) s0;have es1:=aG (cP W7 _ s1) s1;have es2:=aG (cP W7 _ s2) s2;have es3:=aG (cP W7 _ s3) s3;have es4:=aG (cP W7 _ s4) s4;have es5:=aG (cP W7 _ s5) s5;have es6:=aG (cP W7 _ s6) s6;have es7:=aG (cP W7 _ s7) s7;have es8:=aG (cP W7 _ s8) s8;have es9:=aG (cP W7 _ s9) s9;have es10:=aG (cP W7 _ s10) s10;have hen:=zV (k:=s.kind) (l:=s.length) (n:=s.Ga.length) TcN;have HEB:Hid (Below w.heap.size w W7):=ux;(refine aU TcP TcP ?_;(repeat(go_big_quiet_step ((go_at_call 102;exact iH (ji _ _ _ _ _ _ _ _ _ _ _ _ _ _ _ _ TcN TcN TcN)))));(with_reducible refine fR ?_);intro wq ia;have kq:=dY ia;clear ia)
   have fy:=Zbl ux kq;have H0W:=Zbk kq H07;have O7:=Zbk kq H17;clear kq ev0 ev2 ed3 es0 es1 es2 es3 es4 es5 es6 es7 es8 es9 es10;have q2:decide (d.Gc-r.start<iB s.kind s.length s.Ga.length)=false:=by simp;omega
   go_wp2;go_roundw;exact⟨k+1,TcN,TcR,fy.o,H0W.o,O7.o⟩;simp[intOf];omega
 have y:=SL.o wr H13.o;obtain⟨s0,s1,s2,s3,s4,s5,s6,s7,s8,s9,s10⟩:=IC y;have y':=VL.o wr H03.o;obtain⟨v0,v1,v2,v3,v4,v5⟩:=sv6 y';have HBR:=aa hB;go_wp2_with fail;clear s0 s1 s2 s3 s4 s5 s6 s7 s8 s9 s10 y v0 v1 v2 v3 v4 v5 y';refine(LQ (ok:=ok) v s _ _ _ (aN.moves.mv (Mv.of HBR.o) My.o) (bC.moves.mv (Mv.of HBR.o) HSV.o) TcN (Nb.o.below HBR.o) UL O6.o.p5 O6.o.p7 HF.o.2.2.1).mono ?_;rintro e w4 ⟨rfl,hb4⟩;have eI:=Zbl HBR hb4;have H04:=Zbk hb4 H03;have H14:=Zbk hb4 H13;clear hb4 H03 H13 HBR hB;have s2:=SL.o w4 H14.o 2 _ rfl;by_cases hk6:s.kind=6
 ·have VA:(s.kind==6)=true:=by simpa using hk6
  have HK6:=aa hk6;clear hk6;go_upto_region 13 with(fail);clear s2;refine oG (ok:=ok) _ w4 g a bc sm _ s.pool Bc (cC Hh eI.o.size) ((eI.o.cell (p:=Bc) Hh).trans XH.o) ((eI.o.block bc jt).trans nw.o) (SL.o w4 H14.o 7 _ rfl) (aq H14.o) (HG.o.mv (Mv.of eI.o)) HZ.o _ _ rfl rfl (aa ?_) (fun _ _ _ _ _ h=>h);intro tp8 tc8 sp8 sc8 b8 W7 hb7 hb8 hblk8 hv7;have ux:=Zbl eI hb7;have H07:=Zbk hb7 H04;have H17:=Zbk hb7 H14;have HV7:=aa hv7;have mb:((aM g.F9 s.pool).getD eY).Gf.length<=1000000:=by
   cases hf:aM g.F9 s.pool with
   |none=>exact cg _
   |some y=>exact(HZ.o.vz y (eV hf)).Gf
  have HK5:=aa (HF.o.2.2.2.1 HK6.o);generalize (aM g.F9 s.pool).isSome=fd at *;generalize (aM g.F9 s.pool).getD eY=vx at *;have bL:=cr hblk8;obtain⟨n0,n1,n2,n3,n4,n5⟩:=sv6 bL;clear bL hb7 hb8 hblk8 hv7 H04 H14 eI;go_wp2_with fail;refine(kU vx _ _ HV7.o TcN).mono ?_;rintro e w5 ⟨rfl,hb5⟩;have eK:=Zbl ux hb5;have H05:=Zbk hb5 H07;have H15:=Zbk hb5 H17;clear hb5 H07 H17 ux n0 n1 n2 n3 n4 n5;have k5b:(eZ vx != 5)=false:=by simpa using HK5.o
  have y:=SL.o w5 H15.o;obtain⟨s0,s1,s2,s3,s4,s5,s6,s7,s8,s9,s10⟩:=IC y;go_wp2_with fail;clear s0 s1 s2 s3 s4 s5 s6 s7 s8 s9 s10 y k5b;refine(kN (ok:=ok) s false _ _ (bC.moves.mv (Mv.of eK.o) HSV.o) TcN).mono ?_;rintro e w6 ⟨uv,rfl,how,hb6⟩;rw[h6 HK6.o]at how;obtain⟨up,uc,rfl,_,_⟩:=(how.rd (ok:=fun _=>True) (fun _ _=>trivial)).cap;have Tq:=Zbl eK hb6;clear hb6 how;go_wp2;go_loopw[86] (fun i wr=>i=.int .i64 0/\Below w6.heap.size w6 wr) (fun _ _=>0)
  exact⟨rfl,bj _ _⟩;obtain⟨rfl,hB⟩:=hrel;have fy:=Zbl Tq hB;exact Tcu
 have VA:(s.kind==6)=false:=by simpa using hk6
 clear hk6;have y:=SL.o w4 H14.o;obtain⟨s0,s1,s2,s3,s4,s5,s6,s7,s8,s9,s10⟩:=IC y;go_wp2_with fail;clear s0 s1 s2 s3 s4 s5 s6 s7 s8 s9 s10 y;refine(kN (ok:=ok) s false _ _ (bC.moves.mv (Mv.of eI.o) HSV.o) TcN).mono ?_;rintro e w6 ⟨uv,rfl,how,hb6⟩;have kf:=how.rd (ok:=fun _=>True) (fun _ _=>trivial);obtain⟨up,uc,rfl,O3,O4⟩:=kf.cap;have B2:=aa kf;clear kf how;have Tq:=Zbl eI hb6;clear hb6;have ez:(dD s false).length<=1000002:=oL s false TcN;have Tb:=aa HF.o.2.2.2.2;generalize hL:dD s false=L at *;clear hL;go_wp2;go_loopw[86] (fun i wr=>∃k:Nat,k<=L.length/\i=.int .i64 k/\Below w6.heap.size w6 wr) (fun i _=>L.length-(intOf i).toNat)
 exact⟨0,cg _,rfl,bj _ _⟩;obtain⟨k,hk,rfl,hB⟩:=hrel;by_cases hlt:k<L.length
 ·obtain⟨x,hx⟩:=aj L k hlt;obtain⟨b,off,us,rfl,_,cX,TE,Tv,hcv⟩:=B2.o.elem hx;obtain rfl:us=_:=Tv;have q0:=(hB.cell (p:=⟨b,off+k*1+0,none⟩) cX).trans (hcv 0 _ rfl);rw[fp,fg]at q0;have HX:=aa hx;clear hx;have fy:=Zbl Tq hB;obtain⟨g0,g1,g2,g3,g4,g5,g6,g7,g8⟩:=bX.cells (sm:=sm) ((fy.o.block bc jt).trans nw.o);have cc:=(fy.o.cell (p:=Bc) Hh).trans XH.o;clear hcv TE;go_wp2_with fail;clear g0 g1 g2 g3 g4 g5 g6 g7 g8 cc;refine(fA (ok:=ok) g a x _ (HG.o.mv (Mv.of fy.o)).F9 HZ.o.vl HZ.o.vz).mono ?_;rintro e w8 ⟨u8,rfl,hv8,hb8⟩;have O8:=aa hv8;obtain⟨t8,s8,rfl,ht8,hs8⟩:=hv8;obtain⟨tp8,tc8,rfl,_,_⟩:=ht8.cap;obtain⟨sp8,sc8,rfl,_,_⟩:=hs8.cap;clear ht8 hs8;have hB8:Below w6.heap.size w6 w8:=hB.trans (hb8.mono hB.size);have Ix:=aa hB8;have cT:=List.any_eq_false.1 Tb.o x (ct HX.o);unfold dh at cT;simp only[tG,not_or,Bool.not_eq_true]at cT;have mb:((aM g.F9 x).getD eY).Gf.length<=1000000:=by
   cases hf:aM g.F9 x with
   |none=>exact cg _
   |some y=>exact(HZ.o.vz y (eV hf)).Gf
  generalize (aM g.F9 x).isSome=fd at *;generalize (aM g.F9 x).getD eY=vx at *;have hA:=ae w8 (.cells (Taf vx tp8 tc8 sp8 sc8) 57);have HNW:=aa (b9 w8 (.cells (Taf vx tp8 tc8 sp8 sc8) 57));have Nc:=aa (aN.moves.mv (Mv.of hA) O8.o);have pL:=aa (hB8.trans (hA.mono hB8.size));have VB:=aa (aq (b9 w8 (.cells (Taf vx tp8 tc8 sp8 sc8) 57)));clear hA hb8 hB8;go_wp2_with fail;generalize DA:World.alloc w8 _=WA at *;clear DA;refine(kU vx _ _ Nc.o TcN).mono ?_;rintro e w9 ⟨rfl,hb9⟩;have J1:=Zbl pL hb9;have VC:=aa (aN.moves.mv (Mv.of hb9) Nc.o);have aG6:=(hb9.block _ VB.o).trans HNW.o;have bL:=cr aG6;obtain⟨n0,n1,n2,n3,n4,n5⟩:=sv6 bL;clear bL aG6 hb9;obtain⟨O9,k5b⟩:=cT;go_wp2_with fail;refine(kU vx _ _ VC.o TcN).mono ?_;rintro e w10 ⟨rfl,hb10⟩;have Ax:=Zbl J1 hb10;clear hb10;go_wp2;go_roundw;exact⟨k+1,TcN,TcR,Ax.o⟩;simp[intOf];omega
 have fy:=Zbl Tq hB;exact Tcu
theorem TbD{p:Prop}(h:p:=by
 ·rintro e w2 ⟨rfl,hm,_⟩;have HM:=aa hm;clear hm;go_wp2;go_ret2;subst Uc;exact⟨rfl,HA.o.trans (HM.o.none.mono HA.o.size)⟩):p:=h
theorem vM{ok:Nat->Prop}(g:af)(a:bN)(bc:Nat)(w:World)(kB:gY w bc g a)(hg:dN ok w g a)(hf:UQ g)(hS:AW w)(hre:∀v∈g.F9,∀s∈v.Gf,mM g v s=0)(h6:∀v∈g.F9,∀s∈v.Gf,s.kind=6->dD s false=[]) :
  Calls prog 75 #[.pointer (some bc)] w (OkM w):=by
 have V7:=aa hre;have H6:=aa h6;clear hre h6;have hA:=ae w (.cells #[.pointer (some bc)] 117);have HB:=aa (b9 w (.cells #[.pointer (some bc)] 117));have HA:=aa hA;clear hA;have I3:=aa (kB.below HA.o);have HG:=aa (hg.mv (Mv.of HA.o));have HS:=aa (hS.below HA.o);have HF:=aa hf;clear kB hg hS hf;go_enter func75,ntmps75
 go_wp2_with fail;generalize hW1:World.alloc w _=W1 at *;generalize Uc:w.heap.size=Bc at *;clear hW1;refine(ni (ok:=ok) (F:=fun _=>False) 119 [.pointer (some Bc)] (fun l W=>by go_simp) g a bc (fun _ _=>True) W1 I3.o HG.o HF.o.sz (fun _ f=>f.elim) (fun _ _ _ _ _=>trivial) trivial ?_).mono ?_
 ·intro pre v s post hp W u1 u2 hm _ hv hs;obtain⟨m1,m2⟩:=jZ hp;have hb:=hm.none;refine(sO (ok:=ok) g a bc Bc v s u1 u2 W (I3.o.below hb) ((hb.cell (p:=Bc) (aq HB.o)).trans (by simp[World.cell?,HB.o])) (cC (aq HB.o) hb.size) (HG.o.mv (Mv.of hb)) HF.o.sz HF.o.de hv hs (HF.o.sf v m1 s m2) (HF.o.sz.vz v m1) (HS.o.below hb) (HF.o.vn v m1) (V7.o v m1 s m2) (H6.o v m1 s m2)).mono ?_;rintro e W' ⟨rfl,hb'⟩;exact⟨rfl,cR.of_below hb',trivial⟩
 exact TbD
theorem LP{ok:Nat->Prop}(g:af)(a:bN)(bc:Nat)(w:World)(kB:gY w bc g a)(hg:dN ok w g a)(hf:UQ g)(hlb:Cu g)(Ud:∀v∈g.F9,∀s∈v.Gf,Ah s)(hsb:∀v∈g.F9,∀s∈v.Gf,CX g s=true) :
  Calls prog 76 #[.pointer (some bc)] w (OkM w):=by
 have ox:=aa hsb;clear hsb;have hA:=ae w (.cells #[.pointer (some bc)] 117);have hB:=b9 w (.cells #[.pointer (some bc)] 117);have hA2:=ae (w.alloc (.cells #[.pointer (some bc)] 117)) (.cells #[.func (.func 124) #[] #[.pointer (some w.heap.size)]] 169);have HL:=aa (b9 (w.alloc (.cells #[.pointer (some bc)] 117)) (.cells #[.func (.func 124) #[] #[.pointer (some w.heap.size)]] 169));have HB:=aa ((hA2.block _ (aq hB)).trans hB);have HA:=aa (hA.trans (hA2.mono hA.size));clear hA hA2 hB;have I3:=aa (kB.below HA.o);have HG:=aa (hg.mv (Mv.of HA.o));have HF:=aa hf;have Qc:=aa hlb;have Mx:=aa Ud;clear kB hg hf hlb Ud;go_enter func76,ntmps76
 go_wp2_with fail;generalize hW1:World.alloc (World.alloc w _) _=W1 at *;rw[cW]at HL;have hne:w.heap.size<w.heap.size+1:=Nat.lt_succ_self _;generalize hBl:w.heap.size+1=Bl at *;generalize Uc:w.heap.size=Bc at *;clear hW1;refine(ni (ok:=ok) (F:=fun _=>False) 126 [.pointer (some Bl),.pointer (some Bc)] (fun l W=>by go_simp) g a bc (fun _ _=>True) W1 I3.o HG.o HF.o.sz (fun _ f=>f.elim) (fun _ _ _ _ _=>trivial) trivial ?_).mono ?_
 ·intro pre v s post hp W u1 u2 hm _ hv hs;obtain⟨m1,m2⟩:=jZ hp;have hb:=hm.none;refine(Lp (ok:=ok) g a bc Bc Bl v s u1 u2 W (I3.o.below hb) ((hb.cell (p:=Bc) (aq HB.o)).trans (by simp[World.cell?,HB.o])) (cC (aq HB.o) hb.size) ((hb.cell (p:=Bl) (aq HL.o)).trans (by simp[World.cell?,HL.o])) (cC (aq HL.o) hb.size) (HG.o.mv (Mv.of hb)) HF.o.sz Qc.o HF.o.ext hv hs (Mx.o v m1 s m2) (ox.o v m1 s m2)).mono ?_;rintro e W' ⟨rfl,hb'⟩;exact⟨rfl,cR.of_below hb',trivial⟩
 exact TbD
theorem Li{l:List ByteArray}(h:eP l=0):l.length<=8/\∀k,k<l.length->kV l k=true:=by
 unfold eP at h;split at h
 ·cases h
 split at h
 ·rename_i h2;exact⟨TcN,fun k hk=>List.all_eq_true.1 h2 k (List.mem_range.2 hk)⟩
 cases h
theorem LC(h:qX g=0):jo g.name=true/\lm g/\iR g/\eP g.tags=0/\g.history.all lL=true:=by
 unfold qX at h;split at h
 ·cases h
 split at h
 ·cases h
 split at h
 ·cases h
 split at h
 ·rename_i h4;exact absurd h h4
 split at h
 ·rename_i h1 h2 h3 h4 h5;exact⟨Tdq,Decidable.byContradiction h2,Decidable.byContradiction h3,by simpa using h4,h5⟩
 cases h
theorem Tb3{p:Prop}(h:p:=by
 go_wp2;go_roundw;exact⟨k+1,TcN,TcR,cm.o⟩;simp[intOf];omega):p:=h
theorem qH{ok:Nat->Prop}(l:List ByteArray)(v:Value)(w:World)(hr:b6 aF 1 ok w [v] l)(hl:l.length<=1000000)(hsz:∀s∈l,s.size<=9223372036854775807)(ht:eP l=0) :
  Calls prog 111 #[v] w fun e w'=>e=.returned (.int .i64 0)/\Below w.heap.size w w':=by
 obtain⟨p,c,rfl,hc1,hc2⟩:=hr.cap;have HR:=aa hr;clear hr;have Zu:=aa hsz;clear hsz;have HT:=aa (Li ht);clear ht;go_enter func111,ntmps111;have hd:decide ((8:Int)<(l.length:Int))=false:=by have:=HT.o.1;simp;omega
 go_wp2;go_loopw[10,3,4] (fun i _ _ wr=>∃k:Nat,k<=l.length/\i=.int .i64 k/\Below w.heap.size w wr) (fun i _ _ _=>l.length-(intOf i).toNat)
 exact⟨0,cg _,rfl,bj _ _⟩;obtain⟨k,hk,rfl,hB⟩:=hrel;by_cases hlt:k<l.length
 ·obtain⟨s,hs⟩:=aj l k hlt;obtain⟨b,off,us,rfl,_,cX,ez,eE,hcv⟩:=HR.o.elem hs;obtain rfl:us=_:=eE;have q0:=(hB.cell (p:=⟨b,off+k*1+0,none⟩) cX).trans (hcv 0 _ rfl);rw[fp,fg]at q0;have HG:Hid (l.getD k ⟨#[]⟩=s):=aa (by simp[hs]);have Ud:=Zu.o s (ct hs);clear hcv ez hs;have hta:=HT.o.2 k hlt;unfold kV at hta;rw[HG.o,eh,tG,fk]at hta;have Mz:=aa hta;clear hta;go_wp2_with fail;refine(Af s _ Ud).mono ?_;rintro e w2 ⟨rfl,hb2⟩;rw[Mz.o.1];have cm:=aa (hB.trans (hb2.mono hB.size));clear hb2;by_cases hk0:k<1
  ·exact Tb3
  obtain⟨r,hr'⟩:=aj l (k-1) TcN;obtain⟨b',off',us',e',_,ak8,TE,Tv,hcv'⟩:=HR.o.elem hr';obtain rfl:us'=_:=Tv;injection e' with e';injection e' with eb eo;subst eb;subst eo;have q1:=(cm.o.cell (p:=⟨b,off+(k-1)*1+0,none⟩) cX).trans (hcv' 0 _ rfl);rw[fp,fg]at q1;have hc:Op.bytesLess r.toList s.toList=true:=by
   have:=Mz.o.2.resolve_left TcN;rwa[show l.getD (k-1) ⟨#[]⟩=r by simp[hr']]at this
  clear hcv' TE ak8 hr' q0;exact Tb3
 go_wp2;go_ret;exact⟨rfl,hB⟩
theorem TcE{p:Prop}(h:p:=by
 exact TcM):p:=h
theorem Tb2{p:Prop}(h:p:=by
 exact TcE):p:=h
theorem LZ{ok:Nat->Prop}(g:af)(a:bN)(bc:Nat)(w:World)(kB:gY w bc g a)(hg:dN ok w g a)(hz:UT g)(hS:AW w)(he:qX g=0) :
  Calls prog 71 #[.pointer (some bc)] w (OkM w):=by
 have jt:=kB.lt;obtain⟨sm,hblk,hmap⟩:=kB;have nw:Hid (bX w bc sm g a):=aa hblk;clear hblk hmap;obtain⟨g0,g1,g2,g3,g4,g5,g6,g7,g8⟩:=bX.cells nw.o;have HT:=aa hg.tags;have HH:=aa hg.hist;have HZ:=aa hz;have HS:=aa hS;have hhl:=hz.hl;have hnz:=hz.name;obtain⟨vp,vc,sT,ao8,ap0⟩:=hg.hist.cap;injection sT with e1 e2 e3;obtain⟨p6,c6,h6,h61,h62⟩:=hg.Gb.cap;obtain⟨p7,c7,h7,h71,h72⟩:=hg.F9.cap;clear hg hz hS;obtain⟨ID,TJ,TK,G3,G4,Ge,Hb,Hc⟩:=a;dsimp only at e1 e2 e3 g0 g1 g2 g3 g4 g5 g6 g7 g8 h6 h7;subst e1;subst e3;clear e2 h6 h7 h61 h62 h71 h72;have HE:=aa (LC he);clear he;have CN:=aa (b9 w (.cells (Tan g ID TJ TK G3 G4 Ge Hb Hc) 32));have hA:=ae w (.cells (Tan g ID TJ TK G3 G4 Ge Hb Hc) 32);have cU:=aa hA;have HS1:=aa (HS.o.below hA);clear hA;go_enter func71,ntmps71
 go_wp2_with fail;clear g0 g1 g2 g3 g4 g5 g6 g7 g8;generalize hW1:World.alloc w _=W1 at *;have XK:w.heap.size=w.heap.size:=rfl;generalize hB0:w.heap.size=B at CN;clear hW1 XK;refine(fT g.name W1 hnz HS1.o).mono ?_;rintro e w2 ⟨rfl,hb2⟩;rw[HE.o.1];have cm:=Zbl cU hb2;have pH:=Zbk hb2 CN;clear hb2 cU CN;have n2:=cr pH.o 2 _ rfl;have n3:=cr pH.o 3 _ rfl;have n4:=cr pH.o 4 _ rfl;have n5:=cr pH.o 5 _ rfl;have n6:=cr pH.o 6 _ rfl;have n7:=cr pH.o 7 _ rfl;have n8:=cr pH.o 8 _ rfl;obtain⟨r1,r2,r3,r4,r5,r6⟩:=HE.o.2.1;obtain⟨l1,l2,l3⟩:=HE.o.2.2.1;have d6:decide ((8:Int)<(g.Gb.length:Int))=false:=by simp;omega
 have d7:decide ((32:Int)<(g.F9.length:Int))=false:=by simp;omega
 have d8:decide ((32:Int)<(g.history.length:Int))=false:=by simp;omega
 go_wp2_with fail;refine(qH (ok:=ok) g.tags _ w2 ((b6.moves aF.moves).mv (Mv.of cm.o) HT.o) HZ.o.tags.1 HZ.o.tags.2 HE.o.2.2.2.1).mono ?_;rintro e w3 ⟨rfl,hb3⟩;have cJ:=Zbl cm hb3;have n8':w3.cell? (Tac B 8)=some (.slice Hb g.history.length Hc):=by simp[World.cell?,(hb3.block _ (aq pH.o)).trans pH.o]
 clear hb3 cm pH n2 n3 n4 n5 n6 n7 n8 d6 d7 d8 l1 l2 r1 r2 r3 r4 r5 r6;go_wp2_with fail;go_loopw[72,7] (fun i _ wr=>∃k:Nat,k<=g.history.length/\i=.int .i64 k/\Below w.heap.size w wr) (fun i _ _=>g.history.length-(intOf i).toNat)
 exact⟨0,cg _,rfl,cJ.o⟩;clear cJ;obtain⟨k,hk,rfl,hB⟩:=hrel;by_cases hlt:k<g.history.length
 ·obtain⟨h,hh⟩:=aj g.history k hlt;obtain⟨b,off,us,XG,gR,cX,ez,eE,hcv⟩:=HH.o.elem hh;subst XG;obtain rfl:us=_:=eE;obtain⟨hn,hid,TD⟩:=h;have cT:wr.heap[b]?=w.heap[b]?:=hB.block b cX;obtain⟨q0,q1,q2⟩:=Mn cT hcv;have aq3:=HZ.o.hist _ (ct hh);have hhb:=List.all_eq_true.1 HE.o.2.2.2.2 _ (ct hh);unfold lL at hhb;rw[eh,fk]at hhb;have HHB:=aa hhb;clear hcv ez cT hh hhb;have HS4:=aa ((HS.o.below hB).below (ae wr (.cells #[.string hn,.int .u64 hid,.int .i64 TD] 62)));have eI:=aa (hB.trans ((ae wr (.cells #[.string hn,.int .u64 hid,.int .i64 TD] 62)).mono hB.size));have VG:=aa (b9 wr (.cells #[.string hn,.int .u64 hid,.int .i64 TD] 62));go_wp2_with fail;clear q0 q1 q2;generalize hW4:World.alloc wr _=W4 at *;generalize hB4:wr.heap.size=Bh at *;clear hW4 hB4 hB;refine(fT hn W4 aq3 HS4.o).mono ?_;rintro e w5 ⟨rfl,hb5⟩;rw[show jo hn=true from HHB.o.1];have eK:=Zbl eI hb5;have m2:w5.cell? (Tac Bh 2)=some (.int .i64 TD):=by simp[World.cell?,(hb5.block _ (aq VG.o)).trans VG.o]
  clear hb5 eI VG;obtain⟨s1,s2⟩:0<=TD/\TD<=1048575:=HHB.o.2;exact Tb2
 go_wp2;go_ret2;exact⟨rfl,hB⟩
theorem Tbh{p:Prop}(h:p:=by
 split at h
 ·cases h
 split at h
 ·cases h
 split at h
 ·cases h
 rename_i h1 h2 h3;exact⟨Tdq,Bool.eq_false_iff.2 h2,Decidable.byContradiction h3,h⟩):p:=h
theorem Lt{d:az}(h:pg g k d=0):jo d.name=true/\(g.Gb.take k).any (dG d)=false/\jQ g d/\eP d.tags=0:=by
 unfold pg at h;exact Tbh
theorem LW{v:ay}(h:yH g k v=0):nE v=true/\(g.F9.take k).any (fC v)=false/\(1<=v.Gf.length/\v.Gf.length<=64)/\eP v.tags=0:=by
 unfold yH at h;exact Tbh
theorem TdY{p:Prop}(h:p:=by simp[World.cell?,sX.o]):p:=h
theorem LB{ok:Nat->Prop}(g:af)(a:bN)(bc:Nat)(w:World)(kB:gY w bc g a)(hg:dN ok w g a)(hz:UT g)(hx:1<=g.Gd/\g.Gd<=1024)(hS:AW w)(vu:∀(k:Nat) (d:az),g.Gb[k]?=some d->pg g k d=0) :
  Calls prog 72 #[.pointer (some bc)] w (OkM w):=by
 have kj:=aa fun k d h=>Lt (vu k d h);clear vu;have jt:=kB.lt;obtain⟨sm,hblk,hmap⟩:=kB;have nw:Hid (bX w bc sm g a):=aa hblk;clear hblk hmap;obtain⟨g0,g1,g2,g3,g4,g5,g6,g7,g8⟩:=bX.cells nw.o;have HG:=aa hg.Gb;have HZ:=aa hz;have HX:=aa hx;have HS:=aa hS;have CD:=hz.dl;obtain⟨vp,vc,sT,ao8,ap0⟩:=hg.Gb.cap;clear hg hz hx hS;injection sT with e1 e2 e3
 obtain⟨ID,TJ,TK,G3,G4,Ge,Hb,Hc⟩:=a;dsimp only at e1 e2 e3 g0 g1 g2 g3 g4 g5 g6 g7 g8;subst e1;subst e3;clear e2;go_enter func72,ntmps72;go_wp2;clear g0 g1 g2 g3 g4 g5 g6 g7 g8
 go_loopw[14,4,5,6,7] (fun i _ _ _ _ wr=>∃k:Nat,k<=g.Gb.length/\i=.int .i64 k/\Below w.heap.size w wr) (fun i _ _ _ _ _=>g.Gb.length-(intOf i).toNat)
 exact⟨0,cg _,rfl,bj _ _⟩;obtain⟨k,hk,rfl,hB⟩:=hrel;by_cases hlt:k<g.Gb.length
 ·obtain⟨d,hd⟩:=aj g.Gb k hlt;have HD:=aa (kj.o k d hd);obtain⟨b,off,us,rfl,gR,cX,ez,eE,hcv⟩:=HG.o.elem hd;have Ni:=ct hd;have Pa:=HZ.o.disk d Ni;have aq3:=Pa.1;have Pb:=aa Pa.2;obtain⟨tv,rfl,ew⟩:=eE;obtain⟨tp,tc,rfl,_,_⟩:=ew.cap;have Hx:=aa ew;have cT:wr.heap[b]?=w.heap[b]?:=hB.block b cX;obtain⟨q0,q1,q2,q3,q4,q5,q6⟩:=OD cT hcv;clear hcv ez cT ew Pa Ni hd;have sX:=aa (b9 wr (.cells (Tah d tp tc) 39));have hA:=ae wr (.cells (Tah d tp tc) 39);have cU:=aa (hB.trans (hA.mono hB.size));have at7:=((cU.o.block bc jt).trans nw.o);obtain⟨g0,g1,g2,g3,g4,g5,g6,g7,g8⟩:=bX.cells (sm:=sm) at7;clear hA at7
  go_wp2_with fail;clear q0 q1 q2 q3 q4 q5 q6 g0 g1 g2 g3 g4 g5 g6 g7 g8;generalize hW1:World.alloc wr _=W1 at *;generalize hBd:wr.heap.size=Bd at *;clear hW1 hBd;have hlk:(g.Gb.take k).length=k:=by simp;omega
  have Fl:=sN (ok:=ok) (g.Gb.take k) d (some ⟨b,off,none⟩) G3 Bd W1 (by rw[hlk];exact b6.take ((b6.moves aO.moves).mv (Mv.of cU.o) HG.o) k hk) TcN TdY TdY (aq sX.o);rw[hlk]at Fl;refine Fl.mono ?_;clear Fl hlk hB;rintro e w2 ⟨rfl,hb2⟩;rw[HD.o.2.1];have cm:=Zbl cU hb2;have B8:=Zbk hb2 sX;clear hb2 cU sX;have n0:=cr B8.o 0 _ rfl;go_wp2_with fail;refine(fT d.name w2 aq3 (HS.o.below cm.o)).mono ?_;rintro e w3 ⟨rfl,hb3⟩;rw[HD.o.1];have cJ:=Zbl cm hb3;have n9:=Zbk hb3 B8;clear hb3 cm B8 n0;have n0:=cr n9.o 0 _ rfl;have n2:=cr n9.o 2 _ rfl;have n3:=cr n9.o 3 _ rfl;have n6:=cr n9.o 6 _ rfl;obtain⟨-,-,-,g3,-,-,-,-,-⟩:=bX.cells (sm:=sm) ((cJ.o.block bc jt).trans nw.o);have hx1:=HX.o.1;have hx2:=HX.o.2;obtain⟨r1,r2,r3,r4,r5⟩:=HD.o.2.2.1;have m1:0<=d.Gc*g.Gd:=oA r3 TcN;have w1:IntKind.i64.wrap (d.Gc*g.Gd)=d.Gc*g.Gd:=dy _ TcN;have w2:IntKind.i64.wrap (d.first+d.Gc*g.Gd)=d.first+d.Gc*g.Gd:=dy _ TcN;have k1:decide (d.first<0)=false:=cN TcN;have k2:decide (65536<d.first)=false:=cN TcN;have k3:decide (d.Gc<0)=false:=cN TcN;have k4:decide (4096<d.Gc)=false:=cN TcN;have k5:decide (65536<d.first+d.Gc*g.Gd)=false:=cN TcN;go_upto_region 9 with(fail);go_quiet (fail);clear k1 k2 k3 k4 k5 w1 w2 m1 r1 r2 r3 r4 r5 n2 n3 g3;have hB4:=fun n=>aT cJ.o n;have Rq:∀n,(w3.drewN n).heap[Bd]?=_:=fun n=>n9.o;have n0':∀n,(w3.drewN n).cell? Bd=some (.string d.name):=fun n=>n0
  go_wp2_with fail;clear cJ n9 n0 n6;generalize hW4:w3.drewN _=W4 at *;have eI:Hid (Below w.heap.size w W4):=aa (hW4 ▸ hB4 _);have aw8:=aa (hW4 ▸ Rq _);clear hB4 Rq n0' hW4;refine(qH (ok:=ok) d.tags _ W4 ((b6.moves aF.moves).mv (Mv.of eI.o) Hx.o) Pb.o.1 Pb.o.2 HD.o.2.2.2).mono ?_;rintro e w5 ⟨rfl,hb5⟩;have eK:=Zbl eI hb5;have VH:=Zbk hb5 aw8;clear hb5 eI aw8;have n0:=cr VH.o 0 _ rfl;exact Tb2
 obtain rfl:k=g.Gb.length:=by omega
 go_wp2;go_ret2;exact⟨rfl,hB⟩
theorem FR{ok:Nat->Prop}(g:af)(a:bN)(bc:Nat)(w:World)(kB:gY w bc g a)(hg:dN ok w g a)(hz:UT g)(hS:AW w)(hve:∀(k:Nat) (v:ay),g.F9[k]?=some v->yH g k v=0) :
  Calls prog 73 #[.pointer (some bc)] w (OkM w):=by
 have HVE:=aa fun k v h=>LW (hve k v h);clear hve;have jt:=kB.lt;obtain⟨sm,hblk,hmap⟩:=kB;have nw:Hid (bX w bc sm g a):=aa hblk;clear hblk hmap;obtain⟨g0,g1,g2,g3,g4,g5,g6,g7,g8⟩:=bX.cells nw.o;have HG:=aa hg.F9;have HZ:=aa hz;have HS:=aa hS;have CD:=hz.vl;obtain⟨vp,vc,sT,ao8,ap0⟩:=hg.F9.cap;clear hg hz hS;injection sT with e1 e2 e3
 obtain⟨ID,TJ,TK,G3,G4,Ge,Hb,Hc⟩:=a;dsimp only at e1 e2 e3 g0 g1 g2 g3 g4 g5 g6 g7 g8;subst e1;subst e3;clear e2;go_enter func73,ntmps73;go_wp2;clear g0 g1 g2 g3 g4 g5 g6 g7 g8
 go_loopw[14,4,5,6,7] (fun i _ _ _ _ wr=>∃k:Nat,k<=g.F9.length/\i=.int .i64 k/\Below w.heap.size w wr) (fun i _ _ _ _ _=>g.F9.length-(intOf i).toNat)
 exact⟨0,cg _,rfl,bj _ _⟩;obtain⟨k,hk,rfl,hB⟩:=hrel;by_cases hlt:k<g.F9.length
 ·obtain⟨v,hd⟩:=aj g.F9 k hlt;have HD:=aa (HVE.o k v hd);obtain⟨b,off,us,rfl,gR,cX,ez,eE,hcv⟩:=HG.o.elem hd;have Ni:=ct hd;have Pa:=HZ.o.vol v Ni;have aq3:=Pa.1;have Pb:=aa Pa.2;obtain⟨tv,sv,rfl,ew,fL⟩:=eE;obtain⟨tp,tc,rfl,_,_⟩:=ew.cap;obtain⟨sp,sc,rfl,hs1,hs2⟩:=fL.cap;have Hx:=aa ew;have cT:wr.heap[b]?=w.heap[b]?:=hB.block b cX;obtain⟨q0,q1,q2,q3,q4,q5⟩:=NG cT hcv;clear hcv ez cT ew fL Pa Ni hd;have sX:=aa (b9 wr (.cells (Taf v tp tc sp sc) 57));have hA:=ae wr (.cells (Taf v tp tc sp sc) 57);have cU:=aa (hB.trans (hA.mono hB.size));have at7:=((cU.o.block bc jt).trans nw.o);obtain⟨g0,g1,g2,g3,g4,g5,g6,g7,g8⟩:=bX.cells (sm:=sm) at7;clear hA at7
  go_wp2_with fail;clear q0 q1 q2 q3 q4 q5 g0 g1 g2 g3 g4 g5 g6 g7 g8;generalize hW1:World.alloc wr _=W1 at *;generalize hBd:wr.heap.size=Bd at *;clear hW1 hBd;have hlk:(g.F9.take k).length=k:=by simp;omega
  have Fl:=vH (ok:=ok) (g.F9.take k) v (some ⟨b,off,none⟩) Ge Bd W1 (by rw[hlk];exact b6.take ((b6.moves aN.moves).mv (Mv.of cU.o) HG.o) k hk) TcN TdY TdY (aq sX.o);rw[hlk]at Fl;refine Fl.mono ?_;clear Fl hlk hB;rintro e w2 ⟨rfl,hb2⟩;rw[HD.o.2.1];have cm:=Zbl cU hb2;have B8:=Zbk hb2 sX;clear hb2 cU sX;have n0:=cr B8.o 0 _ rfl;have HH:Hid (∀b,v.hidden=b->w2.cell? (Tac Bd 2)=some (.bool b)):=aa (by rintro b rfl;simp[World.cell?,B8.o]);have Mr:=HD.o.1;unfold nE at Mr;cases N7:v.hidden
  all_goals
   have n2:=HH.o _ N7;rw[N7]at Mr;simp only[ej,fY,pj]at Mr;replace Mr:=aa Mr;go_wp2_with fail
   first|refine(qO v.name w2 aq3 (HS.o.below cm.o)).mono ?_|refine(fT v.name w2 aq3 (HS.o.below cm.o)).mono ?_
   rintro e w3 ⟨rfl,hb3⟩;have cJ:=Zbl cm hb3;have n9:=Zbk hb3 B8;clear hb3 cm B8 n0;have n2':w3.cell? (Tac Bd 2)=some (.bool v.hidden):=by simp[World.cell?,n9.o]
   rw[N7]at n2';rw[Mr.o];clear N7 n2 Mr HH;have n5:=cr n9.o 5 _ rfl;have n4:=cr n9.o 4 _ rfl;have hr:=HD.o.2.2.1;have k1:decide ((v.Gf.length:Int)<1)=false:=cN TcN;have k2:decide ((64:Int)<(v.Gf.length:Int))=false:=cN TcN;clear hr;go_wp2_with fail;refine(qH (ok:=ok) v.tags _ w3 ((b6.moves aF.moves).mv (Mv.of cJ.o) Hx.o) Pb.o.1 Pb.o.2 HD.o.2.2.2).mono ?_;rintro e w5 ⟨rfl,hb5⟩;have eK:=Zbl cJ hb5;clear hb5 cJ n9 n2' n4 n5 k1 k2;exact Tb2
 obtain rfl:k=g.F9.length:=by omega
 go_wp2;go_ret2;exact⟨rfl,hB⟩
attribute [local go_sem] run_makeMap_plain
theorem TaZ{p:Prop}(h:p:=by
 have hlk:=gm.look Hj.o x hxs;obtain⟨w',hst,hc',hg',hz'⟩:=gm.store Hj.o Rn x hxs;have HC':=aa hc';clear hc';have HX:=aa (take_snoc' L m x hx);have Pg:=aa (xd.o.trans (cR.grown hg') (fun i e=>.inl e));clear Ry Pf hx hg' hz';generalize iJ _ x=c at *;go_wp2;go_roundw;exact⟨m+1,TcN,TcR,Pg.o,by rw[HX.o,<- cV];exact HC'.o⟩;simp[intOf];omega):p:=h
theorem Mf{ok:Nat->Prop}(g:af)(a:bN)(bc:Nat)(w:World)(kB:gY w bc g a)(hg:dN ok w g a)(hz:JT g)(hU:∀pool,(dA (aA g.F9) pool).length<=1000000)
  (hN:∀v∈g.F9,∀s∈v.Gf,∀pool,∀x∈dD s pool,x.size<=maxLen) (hV:∀v∈g.F9,v.name.size<=maxLen) (hue:∀v∈g.F9,yt g v=0) :
  Calls prog 78 #[.pointer (some bc)] w (OkM w):=by
 have HUV:=aa hue;clear hue;have jt:=kB.lt;obtain⟨sm,hblk,_⟩:=kB;have nw:Hid (bX w bc sm g a):=aa hblk;clear hblk;have HG:=aa hg.F9;have HZ:=aa hz;have HU:=aa hU;clear hU;have HN:=aa hN;clear hN;have VX:=aa hV;clear hV;have mb:=hz.vl;obtain⟨vp,vc,sT,ao8,ap0⟩:=hg.F9.cap;clear hg hz;injection sT with e1 e2 e3;obtain⟨ID,TJ,TK,G3,G4,Ge,Hb,Hc⟩:=a;dsimp only at e1 e2 e3;subst e1;subst e3;clear e2;have hA1:=ae w (.map #[] 0);have hA2:=ae (w.alloc (.map #[] 0)) (.map #[] 0);have hm1:=bi.made prog 9 w;have hm2:=bi.made prog 9 (w.alloc (.map #[] 0));rw[cW]at hm2;have HP:=aa (gm.nil (hm1.block (hA2.block _ hm1.lt)));have HA:=aa (gm.nil hm2);have HB:=aa (hA1.trans (hA2.mono hA1.size));clear hA1 hA2 hm1 hm2;obtain⟨-,-,-,-,-,-,-,g7,-⟩:=bX.cells (sm:=sm) ((HB.o.block bc jt).trans nw.o);go_enter func78,ntmps78
 go_upto_region 3 with(fail);generalize hW1:World.alloc (World.alloc w _) _=W1 at *;clear hW1 g7;go_loopw[24] (fun i wr=>∃k:Nat,k<=g.F9.length/\i=.int .i64 k/\Below w.heap.size w wr/\gm wr w.heap.size (dA (aA (g.F9.take k)) false)/\gm wr (w.heap.size+1) (dA (aA (g.F9.take k)) true)) (fun i _=>g.F9.length-(intOf i).toNat)
 exact⟨0,cg _,rfl,HB.o,HP.o,HA.o⟩;clear HB HP HA;obtain⟨k,hk,rfl,hB,hp,ha⟩:=hrel;have HP:=aa hp;clear hp;have HA:=aa ha;clear ha;by_cases hlt:k<g.F9.length
 ·obtain⟨v,hv⟩:=aj g.F9 k hlt;obtain⟨b,off,us,rfl,gR,cX,ez,eE,hcv⟩:=HG.o.elem hv;have Zr:=ct hv;have hvz:=HZ.o.vz v Zr;have GF:=hvz.Gf;have Zu:=aa hvz.seg;have HNV:=aa (HN.o v Zr);obtain⟨tv,sv,rfl,ew,fL⟩:=eE;obtain⟨tp,tc,rfl,_,_⟩:=ew.cap;obtain⟨sp,sc,rfl,hsc1,hsc2⟩:=fL.cap;have cT:wr.heap[b]?=w.heap[b]?:=hB.block b cX;obtain⟨q0,q1,q2,q3,q4,q5⟩:=NG cT hcv;have HV:=aa hv;clear hv;have Zv:=aa fL;clear hcv ez cT ew fL hvz Zr;have hA:=ae wr (.cells (Taf v tp tc sp sc) 57);have cU:=aa (hB.trans (hA.mono hB.size));have NY:=aa (HP.o.block (hA.block _ HP.o.lt));have Ub:=aa (HA.o.block (hA.block _ HA.o.lt));clear hA;go_upto_region 6 with(fail);clear q0 q1 q2 q3 q4 q5;generalize hW1:World.alloc wr _=W1 at *;generalize XK:wr.heap.size=Bv at *;clear hW1 XK hB HP HA;go_loopw[31] (fun i wi=>∃j:Nat,j<=v.Gf.length/\i=.int .i64 j/\Below w.heap.size w wi/\gm wi w.heap.size (dA (bW g.F9 k j v) false)/\gm wi (w.heap.size+1) (dA (bW g.F9 k j v) true)) (fun i _=>v.Gf.length-(intOf i).toNat)
  exact⟨0,cg _,rfl,cU.o,by rw[eQ];exact NY.o,by rw[eQ];exact Ub.o⟩;clear cU NY Ub;obtain⟨j,hj,rfl,hB,hp,ha⟩:=hrel;have HP:=aa hp;clear hp;have HA:=aa ha;clear ha;by_cases hlt2:j<v.Gf.length
  ·obtain⟨s,hs⟩:=aj v.Gf j hlt2;obtain⟨b2,off2,us2,hsp,I0,C2,B5,C3,hcv2⟩:=Zv.o.elem hs;subst hsp;have HSV:=aa C3;have hsm:=ct hs;have hsz1:=(Zu.o s hsm).1;have Yy:=aa (HNV.o s hsm);have Ug:=aa (jB g.F9 k j v s HV.o hs);have sY:=aa (fG g.F9 k j v s hs);obtain⟨av,Oz,rfl,mC,hst⟩:=C3;obtain⟨ap,ac,rfl,_,_⟩:=mC.cap;obtain⟨eN,eR,rfl,_,_⟩:=hst.cap;have AD:wr.heap[b2]?=w.heap[b2]?:=hB.block b2 C2;obtain⟨q0,q1,q2,q3,q4,q5,q6,q7,q8,q9,q10⟩:=ak5 AD hcv2;clear hs hsm hcv2 B5 AD mC hst;have lj:=aa (b9 wr (.cells (Tae s ap ac eN eR) 88));have hA:=ae wr (.cells (Tae s ap ac eN eR) 88);have cm:=aa (hB.trans (hA.mono hB.size));have Pe:=HP.o.lt;have hAl:=HA.o.lt;have MU:=aa (HP.o.block (hA.block _ Pe));have HA2:=aa (HA.o.block (hA.block _ hAl));clear hA;go_wp2_with fail;clear q0 q1 q2 q3 q4 q5 q6 q7 q8 q9 q10;generalize hW2:World.alloc wr _=W2 at *;generalize XL:wr.heap.size=Bs at *;clear hW2 XL hB HP HA;refine(kN (ok:=ok) s false _ W2 (bC.moves.mv (Mv.of cm.o) HSV.o) hsz1).mono ?_;rintro e w3 ⟨uv,rfl,how,hb3⟩;have VY:Bs<W2.heap.size:=aq lj.o;have kf:=how.rd (ok:=fun q=>W2.heap.size<=q) (fun q e=>(fh how q e).1);obtain⟨up,uc,rfl,O3,O4⟩:=kf.cap;have B2:=aa kf;clear kf how;have cJ:=Zbl cm hb3;have Uh:=aa (MU.o.block (hb3.block _ MU.o.lt));have OT:=aa (HA2.o.block (hb3.block _ HA2.o.lt));have nB:=aa ((hb3.block _ VY).trans lj.o);clear hb3 cm MU HA2 lj;have HLN:=aa (Yy.o false);have hle:=wu Ug.o false;have hle1:=HU.o false;generalize hL:dD s false=L at *;go_wp2_with fail;go_loopw[38] (fun i wi=>∃m:Nat,m<=L.length/\i=.int .i64 m/\cR (fun q=>q=w.heap.size) w3 wi/\gm wi (w.heap.size) (dA (bW g.F9 k j v) false++L.take m)) (fun i _=>L.length-(intOf i).toNat)
   exact⟨0,cg _,rfl,cR.refl _ _,by rw[iv,eM];exact Uh.o⟩;obtain⟨m,hm,rfl,oY,aE4⟩:=hrel;have xd:=aa oY;clear oY;have Hj:=aa aE4;clear aE4;by_cases hlt3:m<L.length
   ·obtain⟨x,hx⟩:=aj L m hlt3;obtain⟨bu,ou,uu,rfl,hou,VZ,Pf,V0,Ry⟩:=B2.o.elem hx;obtain rfl:uu=_:=V0;have q0:=(xd.o.cell (p:=⟨bu,ou+m*1+0,none⟩) VZ (by show ¬bu=_;omega)).trans (Ry 0 _ rfl);rw[fp,fg]at q0;have hxs:=HLN.o x (ct hx);have Rn:(dA (bW g.F9 k j v) false++L.take m).length<=1000000:=by rw[cD,ey];omega
    have XJ:=Ag (dA (bW g.F9 k j v) false++L.take m) x;exact TaZ
   obtain rfl:m=L.length:=by omega
   rw[cI]at Hj;have HW:=aa (cJ.o.trans ((xd.o.below (B:=w.heap.size) (by have:=cJ.o.size;omega) (fun q e=>by omega))));have HA4:=aa (OT.o.block (xd.o.block _ OT.o.lt TcN));have V1:=aq nB.o;have Tx:=aa ((xd.o.block _ V1 TcN).trans nB.o);have V2:Hid (dA (bW g.F9 k (j+1) v) false=dA (bW g.F9 k j v) false++L):=aa (by rw[sY.o,qW,hL]);have V3:=aa Hj.o;clear xd Hj B2 HLN hle hle1 cJ Uh OT nB hlt3 hm hL;generalize dA (bW g.F9 k j v) false++L=LF at *;have sL:=cr Tx.o;obtain⟨s0,s1,s2,s3,s4,s5,s6,s7,s8,s9,s10⟩:=IC sL;clear sL;go_wp2_with fail;clear s0 s1 s2 s3 s4 s5 s6 s7 s8 s9 s10;refine(kN (ok:=ok) s true _ wr (bC.moves.mv (Mv.of HW.o) HSV.o) hsz1).mono ?_;rintro e w5 ⟨uv,rfl,how,hb5⟩;have Ph:=HW.o.size;have kf:=how.rd (ok:=fun q=>wr.heap.size<=q) (fun q e=>(fh how q e).1);obtain⟨up',uc',rfl,Yz,YA⟩:=kf.cap;have B2:=aa kf;clear kf how;have aa8:=HA4.o.lt;have eK:=Zbl HW hb5;have YB:=aa (V3.o.block (hb5.block _ V3.o.lt));have HA5:=aa (HA4.o.block (hb5.block _ HA4.o.lt));clear hb5 HW V3 HA4 Tx;have HLN:=aa (Yy.o true);have hle:=wu Ug.o true;have hle1:=HU.o true;generalize hL:dD s true=L at *;go_wp2_with fail;go_loopw[50] (fun i wi=>∃m:Nat,m<=L.length/\i=.int .i64 m/\cR (fun q=>q=w.heap.size+1) w5 wi/\gm wi (w.heap.size+1) (dA (bW g.F9 k j v) true++L.take m)) (fun i _=>L.length-(intOf i).toNat)
   exact⟨0,cg _,rfl,cR.refl _ _,by rw[iv,eM];exact HA5.o⟩;obtain⟨m,hm,rfl,oY,aE4⟩:=hrel;have xd:=aa oY;clear oY;have Hj:=aa aE4;clear aE4;by_cases hlt3:m<L.length
   ·obtain⟨x,hx⟩:=aj L m hlt3;obtain⟨bu,ou,uu,rfl,hou,VZ,Pf,V0,Ry⟩:=B2.o.elem hx;obtain rfl:uu=_:=V0;have q0:=(xd.o.cell (p:=⟨bu,ou+m*1+0,none⟩) VZ (by show ¬bu=_;omega)).trans (Ry 0 _ rfl);rw[fp,fg]at q0;have hxs:=HLN.o x (ct hx);have Rn:(dA (bW g.F9 k j v) true++L.take m).length<=1000000:=by rw[cD,ey];omega
    have XJ:=Ag (dA (bW g.F9 k j v) true++L.take m) x;exact TaZ
   obtain rfl:m=L.length:=by omega
   rw[cI]at Hj;have Tq:=aa (eK.o.trans ((xd.o.below (B:=w.heap.size) (by have:=eK.o.size;omega) (fun q e=>by omega))));have V4:=aa (YB.o.block (xd.o.block _ YB.o.lt TcN));have V5:Hid (dA (bW g.F9 k (j+1) v) true=dA (bW g.F9 k j v) true++L):=aa (by rw[sY.o,qW,hL]);have HA6:=aa Hj.o;go_wp2;go_roundw;exact⟨j+1,TcN,TcR,Tq.o,by rw[V2.o];exact V4.o,by rw[V5.o];exact HA6.o⟩;simp[intOf];omega
  obtain rfl:j=v.Gf.length:=by omega
  have Uh:Hid (gm wr w.heap.size (dA (aA (g.F9.take (k+1))) false)):=aa (by rw[<- fJ g.F9 k v HV.o];exact HP.o);have OT:Hid (gm wr (w.heap.size+1) (dA (aA (g.F9.take (k+1))) true)):=aa (by rw[<- fJ g.F9 k v HV.o];exact HA.o);have cJ:=aa hB;clear HP HA hB;go_wp2;go_roundw;exact⟨k+1,TcN,TcR,cJ.o,Uh.o,OT.o⟩;simp[intOf];omega
 obtain rfl:k=g.F9.length:=by omega
 rw[cI]at HP HA;have Pj:=aa hB;clear hB;obtain⟨-,-,-,-,-,-,-,g7,-⟩:=bX.cells (sm:=sm) ((Pj.o.block bc jt).trans nw.o);go_wp2;clear g7;go_loopw[67] (fun i wi=>∃m:Nat,m<=g.F9.length/\i=.int .i64 m/\Below wr.heap.size wr wi) (fun i _=>g.F9.length-(intOf i).toNat)
 exact⟨0,cg _,rfl,bj _ _⟩;obtain⟨m,hm,rfl,hb⟩:=hrel;have Fc:=aa hb;clear hb;by_cases hlt4:m<g.F9.length
 ·obtain⟨v,hv⟩:=aj g.F9 m hlt4;obtain⟨b,off,us,rfl,gR,cX,ez,eE,hcv⟩:=HG.o.elem hv;have Mr:=aa (VX.o v (ct hv));obtain⟨tv,sv,rfl,ew,fL⟩:=eE;obtain⟨tp,tc,rfl,_,_⟩:=ew.cap;obtain⟨sp,sc,rfl,hsc1,hsc2⟩:=fL.cap;have cT:wr.heap[b]?=w.heap[b]?:=(Fc.o.block b (cC cX Pj.o.size)).trans (Pj.o.block b cX);obtain⟨q0,q1,q2,q3,q4,q5⟩:=NG cT hcv;have HUE:=aa (HUV.o v (ct hv));clear hv hcv ez cT ew fL;have hA:=ae wr (.cells (Taf v tp tc sp sc) 57);have zv:=aa (b9 wr (.cells (Taf v tp tc sp sc) 57));have eI:=Zbl Fc hA;clear hA;go_upto_region 23 with(fail);clear q0 q1 q2 q3 q4 q5;generalize hW1:World.alloc wr _=W1 at *;generalize XK:wr.heap.size=Bv at *;clear hW1 XK Fc;have V8:=gm.look (HA.o.block (eI.o.block _ HA.o.lt)) v.name Mr.o;have Ui:=gm.look (HP.o.block (eI.o.block _ HP.o.lt)) v.name Mr.o;have hux:(if v.hidden then(if iJ (dA (aA g.F9) true) v.name=1 then 0 else 16) else(if iJ (dA (aA g.F9) false) v.name=0 then 0 else 16))=(0:Int):=HUE.o;clear HUE;have n0:=cr zv.o 0 _ rfl;have n2:=cr zv.o 2 _ rfl;generalize iJ (dA (aA g.F9) true) v.name=c1 at *;generalize iJ (dA (aA g.F9) false) v.name=c2 at *;cases hh:v.hidden with
  |true =>
   rw[hh]at n2 hux;have h1:c1=1:=by
    simp only[ej]at hux;split at hux
    ·assumption
    cases hux
   have hx1:((c1:Int) != 1)=false:=by rw[h1];rfl
   clear h1 hh hux Ui;go_wp2;go_roundw;exact⟨m+1,TcN,TcR,eI.o⟩;simp[intOf];omega
  |false =>
   rw[hh]at n2 hux;have h1:c2=0:=by
    simp only[pj,fY]at hux;split at hux
    ·assumption
    cases hux
   have hx1:decide (0<c2)=false:=by rw[h1];rfl
   clear h1 hh hux V8;go_wp2;go_roundw;exact⟨m+1,TcN,TcR,eI.o⟩;simp[intOf];omega
 obtain rfl:m=g.F9.length:=by omega
 have Uj:=Zbl Pj Fc.o;go_wp2;go_ret2;exact⟨rfl,Uj.o⟩
end Go.Proofs.YtillcmhjhajimaaGreatDoor
