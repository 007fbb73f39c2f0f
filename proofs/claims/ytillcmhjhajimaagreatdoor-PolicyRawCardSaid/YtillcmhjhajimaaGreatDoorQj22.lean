/- Lemmas: MoZ, MoC, PolAc, PolF, SpT. -/
import Derived.Test.YtillcmhjhajimaaGreatDoorQj21
set_option maxRecDepth 100000
set_option maxHeartbeats 32000000
set_option linter.all false
namespace Go.Proofs.YtillcmhjhajimaaGreatDoor
open Go.Proofs.Tryz
open Go.RowKit Go.Maps Go.Shelf
theorem zb{ok:Nat->Prop}(L:List (az × Nat))(M:List (ByteArray × Int × Int))(bm Bt:Nat)(v:ay)(s:aB)(u1 u2:List Value)(w:World)(DB:w.cell? Bt=some (.map (some bm)))(Ue:Bt<w.heap.size)(hL:uF ok w L bm)(hLt:∀p∈L,p.2≠Bt)(hT:kK w L M)
  (hv:aN ok w u1 v) (hs:bC ok w u2 s) (hf:wM s) (hx1:1<=aX s) (NM:∀a∈s.Ga,a.vol=false->a.on.size<=maxLen/\∃d,bH (L.map (·.1)) a.on=some d/\0<=a.start/\aX s<=d.Gc-a.start) (Rx:nP (aX s) M s.Ga=false) :
  Calls prog 128 #[.agg u1.toArray,.agg u2.toArray,.pointer (some Bt)] w fun e w'=>e=.returned (.int .i64 0)/\cR (Gm L) w w'/\kK w' L (M++dC (aX s) s.Ga):=by
 have aI2:=aa Rx;clear Rx;have MB:=aa hL;clear hL;have MR:=aa hLt;clear hLt;have HT:=aa hT;clear hT;have N8:=aa NM;clear NM;have VN:=aa DB;clear DB;obtain⟨tv,sv,rfl,ew,fL⟩:=hv;obtain⟨tp,tc,rfl,_,_⟩:=ew.cap;obtain⟨sp,sc,rfl,_,_⟩:=fL.cap;obtain⟨av,Oz,rfl,mC,hst⟩:=hs;obtain⟨ap,ac,rfl,_,_⟩:=mC.cap;obtain⟨eN,eR,rfl,_,_⟩:=hst.cap;have ya:=aa mC;clear mC hst ew fL;have Q1:=hf.ar;have hl0:=hf.l0;have hl1:=hf.l1;clear hf;have qu:aX s<=32768:=by have:=(zV (k:=s.kind) (l:=s.length) (n:=s.Ga.length) TcN).2;unfold aX;omega
 have HXE:Hid (aX s=iB s.kind s.length s.Ga.length):=aa rfl;have hA1:=ae w (.cells (Taf v tp tc sp sc) 57);have hA2:=ae (w.alloc (.cells (Taf v tp tc sp sc) 57)) (.cells (Tae s ap ac eN eR) 88);have lj:=aa (b9 (w.alloc (.cells (Taf v tp tc sp sc) 57)) (.cells (Tae s ap ac eN eR) 88));have HB:=aa (hA1.trans (hA2.mono hA1.size));clear hA1 hA2;go_enter func128,ntmps128
 go_upto_region 1 with(fail);rw[cW]at lj;have aa7:w.heap.size<w.heap.size+1:=Nat.lt_succ_self _;generalize hW1:World.alloc (World.alloc w _) _=W1 at *;generalize XL:w.heap.size+1=Bs at *;clear hW1;have sL:=cr lj.o;have s3:=sL 3 _ rfl;clear sL;go_wp2;clear s3;have Nf:Hid (cR (Gm L) w W1):=aa (cR.of_below HB.o);have Rt:=aa (HT.o.below HB.o);go_loopw[13] (fun i wr=>∃k:Nat,k<=s.Ga.length/\i=.int .i64 k/\cR (Gm L) w wr/\kK wr L (M++dC (aX s) (s.Ga.take k))/\nP (aX s) (M++dC (aX s) (s.Ga.take k)) (s.Ga.drop k)=false/\wr.heap[Bs]?=some (.cells (Tae s ap ac eN eR) 88 (0,0))) (fun i _=>s.Ga.length-(intOf i).toNat)
 exact⟨0,cg _,rfl,Nf.o,by rw[iv];simpa[dC]using Rt.o,by rw[iv,cL];simpa[dC]using aI2.o,lj.o⟩;clear Nf Rt lj HB;obtain⟨k,hk,rfl,hm,ht,he,gO⟩:=hrel;have HM:=aa hm;clear hm;have HT:=aa ht;clear ht;have HE:=aa he;clear he;have lj:=aa gO;clear gO;by_cases hlt:k<s.Ga.length
 ·obtain⟨r,hr⟩:=aj s.Ga k hlt;obtain⟨b,off,us,rfl,gR,cX,ez,hva,mB⟩:=ya.o.elem hr;obtain rfl:us=_:=hva;have cT:wr.heap[b]?=w.heap[b]?:=HM.o.block b cX (fun⟨p,hp,e⟩=>(MB.o.lt p hp).2.1 (e ▸ gR));obtain⟨q0,q1,q2⟩:=Mn cT mB;have Mw:=aa (xC (aX s) s.Ga k r hr);have AG:=aa ((Ee (aX s) (M++dC (aX s) (s.Ga.take k)) hr).symm.trans HE.o);have HIR:=aa (N8.o r (ct hr));clear hr ez mB cT;have hA:=ae wr (.cells (Tau r) 83);have yb:=aa (b9 wr (.cells (Tau r) 83));have QY:=aa (HM.o.trans (cR.of_below (F:=fun _=>False) hA) (fun _ f=>f.elim));have HT2:=aa (HT.o.below hA);have VO:=aq lj.o;have Hi:=aa ((hA.block _ VO).trans lj.o);clear hA;go_upto_region 4 with(fail);clear q0 q1 q2;generalize hW2:World.alloc wr _=W2 at *;generalize NU:wr.heap.size=Ba at *;clear hW2 HM HT lj HE;have a0:=cr yb.o 0 _ rfl
  cases pS:r.vol with
  |true =>
   rw[pS]at a0;have HV:=aa pS;clear pS;go_wp2;go_roundw;exact⟨k+1,TcN,TcR,QY.o,by rw[Mw.o,aw HV.o];exact HT2.o,by have:=AG.o;rw[aw HV.o]at this;rw[Mw.o,aw HV.o];exact this,Hi.o⟩;simp[intOf];omega
  |false =>
   rw[pS]at a0;obtain⟨hsz,d,N4,hst0,hst1⟩:=HIR.o pS;have HV:=aa pS;clear pS;obtain⟨bd,Uf,Pc,htf⟩:=Dv N4;have Yu:=MB.o.de _ Uf;have CD:=MB.o.lt _ Uf;dsimp only at Yu CD;clear N4;have HDN:=aa Pc;clear Pc;have Nj:=aa Uf;clear Uf;have HFB:Hid (∀p∈L,p.2<W2.heap.size):=aa fun p hp=>cC (MB.o.lt p hp).1 QY.o.size
   go_upto_region 5 with(fail);clear a0;obtain⟨st,hst⟩:∃st:Nat,r.start=st:=⟨r.start.toNat,TcN⟩;obtain⟨n,hn⟩:∃n:Nat,aX s=n:=⟨(aX s).toNat,TcN⟩;obtain⟨E,hE⟩:∃E:Nat,d.Gc=E:=⟨d.Gc.toNat,TcN⟩;rw[show d.Gc.toNat=E by omega]at htf;rw[hn,hE,hst]at hst1;rw[hn]at hx1 qu;rw[hE]at Yu;rw[hst]at hst0 yb;have Ru:=aa ((QY.o.cell (p:=Bt) Ue (fun⟨p,hp,e⟩=>MR.o p hp e)).trans VN.o);have VQ:=cC Ue QY.o.size;have Qk:=aa (MB.o.map.block (QY.o.block _ MB.o.map.lt (fun⟨p,hp,e⟩=>(MB.o.lt p hp).2.2 e)))
   have HLK:Hid (∀w',bi prog 9 w' bm L.length (vG L)->(Instr.lookup 170 (.map (some bm)) (.string r.on) false).run prog w'=.ok (.slice (some bd) E E) w'):=aa fun w' hm=>by
    have:=(bi.look hm oM underlying170 (E8 w') (key:=.string r.on) (gG r.on hsz)).1;rwa[htf]at this
   have HST:=aa hst;clear hst;have HN:=aa hn;clear hn;have VR:=aa hE;clear hE;clear htf;have hS:∀w':World,Below W2.heap.size W2 w'->(w'.cell? Bt=some (.map (some bm))/\w'.cell? (Tac Ba 1)=some (.string r.on)/\w'.cell? (Tac Ba 2)=some (.int .i64 (st:Int))/\(Instr.lookup 170 (.map (some bm)) (.string r.on) false).run prog w'=.ok (.slice (some bd) E E) w'/\w'.cell? Bs=some (.int .i64 s.start)/\w'.cell? (Tac Bs 1)=some (.int .i64 s.length)/\w'.cell? (Tac Bs 2)=some (.int .i64 s.kind)/\w'.cell? (Tac Bs 3)=some (.slice (some (b,off)) s.Ga.length ac)/\w'.cell? (Tac Bs 4)=some (.int .i64 s.chunk)/\w'.cell? (Tac Bs 5)=some (.slice eN s.stale.length eR)/\w'.cell? (Tac Bs 6)=some (.string s.log)/\w'.cell? (Tac Bs 7)=some (.string s.pool)/\w'.cell? (Tac Bs 8)=some (.int .i64 s.device)/\w'.cell? (Tac Bs 9)=some (.int .i64 s.mode)/\w'.cell? (Tac Bs 10)=some (.int .i64 s.done)):=fun w' e=>by
    have h2:=(e.block Bs (aq Hi.o)).trans Hi.o;have h3:=(e.block Ba (aq yb.o)).trans yb.o;exact⟨(e.cell (p:=Bt) VQ).trans Ru.o,cr h3 _ _ rfl,cr h3 _ _ rfl,HLK.o w' (Qk.o.block (e.block _ Qk.o.lt)),cr h2 _ _ rfl,cr h2 _ _ rfl,cr h2 _ _ rfl,cr h2 _ _ rfl,cr h2 _ _ rfl,cr h2 _ _ rfl,cr h2 _ _ rfl,cr h2 _ _ rfl,cr h2 _ _ rfl,cr h2 _ _ rfl,cr h2 _ _ rfl⟩
   have HS:=aa hS;clear hS;refine aZ (fun w'=>w'.cell? Bt=some (.map (some bm))/\w'.cell? (Tac Ba 1)=some (.string r.on)/\w'.cell? (Tac Ba 2)=some (.int .i64 (st:Int))/\(Instr.lookup 170 (.map (some bm)) (.string r.on) false).run prog w'=.ok (.slice (some bd) E E) w'/\w'.cell? Bs=some (.int .i64 s.start)/\w'.cell? (Tac Bs 1)=some (.int .i64 s.length)/\w'.cell? (Tac Bs 2)=some (.int .i64 s.kind)/\w'.cell? (Tac Bs 3)=some (.slice (some (b,off)) s.Ga.length ac)/\w'.cell? (Tac Bs 4)=some (.int .i64 s.chunk)/\w'.cell? (Tac Bs 5)=some (.slice eN s.stale.length eR)/\w'.cell? (Tac Bs 6)=some (.string s.log)/\w'.cell? (Tac Bs 7)=some (.string s.pool)/\w'.cell? (Tac Bs 8)=some (.int .i64 s.device)/\w'.cell? (Tac Bs 9)=some (.int .i64 s.mode)/\w'.cell? (Tac Bs 10)=some (.int .i64 s.done)) 11 [] TcP (HS.o _ (bj _ _).drew) (fun hHeld=>?_);refine fS 0 hHeld ?_;refine fS 1 hHeld ?_;refine fS 2 hHeld ?_;refine fS 3 hHeld ?_;refine fS 4 hHeld ?_;refine fS 5 hHeld ?_;refine fS 6 hHeld ?_;refine fS 7 hHeld ?_;refine fS 8 hHeld ?_;refine lR 9 fun K hK=>?_;go_simp;refine(ji _ _ _ _ _ _ _ _ _ _ _ _ _ _ _ _ TcN TcN TcN).mono ?_;rintro e w3 ⟨rfl,hb3⟩;rw[<- HXE.o,HN.o];have cJ:Hid (Below W2.heap.size W2 w3):=aa ⟨hb3.os,hb3.tape,hb3.output,hb3.size,hb3.block⟩;clear hb3;refine hK.o _ _ (HS.o _ cJ.o) ?_;clear hK K;refine lR 10 fun K hK=>?_;go_simp;refine hK.o _ _ (HS.o _ cJ.o) ?_;clear hK K hHeld;refine aP TcP rfl ?_;simp only[cQ,cL]
   go_upto_region 6 with(fail);have hlen:(((bz (M++dC (aX s) (s.Ga.take k)) d).drop st).take n).length=n:=by rw[ey,List.length_drop,gP];have:=VR.o;omega
   have MX:=aa (HT2.o.below cJ.o);have Rv:Hid ((((bz (M++dC (aX s) (s.Ga.take k)) d).drop st).take n).any id=tV (M++dC (aX s) (s.Ga.take k)) r.on r.start (aX s)):=aa (by
    have:=D5 (M++dC (aX s) (s.Ga.take k)) d r.start (aX s) (by rw[HST.o];omega) (by rw[HN.o];omega) (by rw[HST.o,HN.o,VR.o];omega);rw[HST.o,HN.o]at this;rw[HST.o,HN.o,<- HDN.o];exact this)
   have LL:=aa (oC _ bd st (E-st) w3 (MX.o.bools Nj.o st n) (cC (HFB.o _ Nj.o) cJ.o.size) (by rw[hlen];omega));rw[hlen]at LL;clear hlen;rw[HV.o]at Mw AG;rw[bh TcO]at Mw AG;have Rp:=aa (QY.o.trans (cR.of_below (F:=fun _=>False) cJ.o) (fun _ f=>f.elim));have nB:=aa ((cJ.o.block Bs (aq Hi.o)).trans Hi.o);clear QY HT2 Hi HS yb Ru Qk HLK;go_wp2_with fail;refine LL.o.mono ?_;rintro e w4 ⟨rfl,hb4⟩;rw[Rv.o];have Q9:=aa (MX.o.below hb4);have Ql:=aa (Rp.o.trans (cR.of_below (F:=fun _=>False) hb4) (fun _ f=>f.elim));have Tx:=aa ((hb4.block Bs (aq nB.o)).trans nB.o);clear LL Rv MX Rp nB hb4 cJ;have hrun:tV (M++dC (aX s) (s.Ga.take k)) r.on r.start (aX s)=false:=by
    have:=AG.o;cases hq:tV (M++dC (aX s) (s.Ga.take k)) r.on r.start (aX s)with
    |false=>rfl
    |true=>rw[hq,aw rfl]at this;cases this
   rw[hrun,bh TcO]at AG;rw[hrun];clear hrun;have VT:Hid (M++dC (aX s) (s.Ga.take (k+1))=(M++dC (aX s) (s.Ga.take k))++[(d.name,(st:Int),(n:Int))]):=aa (by rw[Mw.o,<- cV,HDN.o,HST.o,HN.o]);have VU:Hid (nP (aX s) (M++dC (aX s) (s.Ga.take (k+1))) (s.Ga.drop (k+1))=false):=aa (by rw[Mw.o,<- cV];exact AG.o);clear Mw AG;go_upto_region 9 with(fail);go_loopw[35,9] (fun i _ wi=>∃j:Nat,j<=n/\i=.int .i64 j/\cR (Gm L) w wi/\kK wi L ((M++dC (aX s) (s.Ga.take k))++[(d.name,(st:Int),(j:Int))])/\wi.heap[Bs]?=some (.cells (Tae s (some ⟨b,off,none⟩) ac eN eR) 88 (0,0))) (fun i _ _=>n-(intOf i).toNat)
   exact⟨0,cg _,rfl,Ql.o,Q9.o.zero _ _,Tx.o⟩;clear Ql Q9 Tx;obtain⟨j,hj,rfl,hm,ht,gO⟩:=hrel;have HM:=aa hm;clear hm;have HT:=aa ht;clear ht;have lj:=aa gO;clear gO;by_cases hlt2:j<n
   ·have hb:=HT.o _ Nj.o;have as4:=aa (HT.o.set MB.o.nb MB.o.nn Nj.o TcN);rw[Int.toNat_natCast]at as4;have HMS:=aa (HM.o.setCell (p:=⟨bd,st+j,none⟩) (.inl ⟨_,Nj.o,rfl⟩) (.bool true));have hne:Bs≠bd:=by have:=(MB.o.lt _ Nj.o).1;dsimp only at this;omega
    have fl:=aa ((bw wr ⟨bd,st+j,none⟩ (.bool true) Bs hne).trans lj.o);have c0:wr.cell? (bd,st+j)=some (.bool (NK ((M++dC (aX s) (s.Ga.take k))++[(d.name,(st:Int),(j:Int))]) d.name (st+j))):=by
     dsimp only at hb;simp only[World.cell?,hb];have hg:=gU (M:=(M++dC (aX s) (s.Ga.take k))++[(d.name,(st:Int),(j:Int))]) (d:=d) (i:=st+j) (by have:=VR.o;omega);generalize bz _ d=bl at hg ⊢;simp[hg]
    have f0:wr.frozen? (bd,st+j)=false:=by
     dsimp only at hb;simp[World.frozen?,hb]
    clear hb;generalize NK _ d.name (st+j)=x at *;go_wp2;go_roundw;exact⟨j+1,TcN,TcR,HMS.o,as4.o,fl.o⟩;simp[intOf];omega
   obtain rfl:j=n:=by omega
   rw[<- VT.o]at HT;go_wp2;go_roundw;exact⟨k+1,TcN,TcR,HM.o,HT.o,VU.o,lj.o⟩;simp[intOf];omega
 obtain rfl:k=s.Ga.length:=by omega
 rw[cI]at HT;go_wp2;go_ret;exact⟨rfl,HM.o,HT.o⟩
theorem zY{ok:Nat->Prop}(pre:List (ay × aB))(bm Bt:Nat)(v:ay)(s:aB)(u1 u2:List Value)(w:World)(DB:w.cell? Bt=some (.map (some bm)))(Ue:Bt<w.heap.size)(hM:bi prog 175 w bm pre.length (iV pre))(hl:pre.length<=1000000)
  (hv:aN ok w u1 v) (hs:bC ok w u2 s) (hp:s.pool.size<=maxLen) (hd:(Lit.int .i64 s.device).wf=true) (he:s.kind=6->pY pre s=false) :
  Calls prog 130 #[.agg u1.toArray,.agg u2.toArray,.pointer (some Bt)] w fun e w'=>e=.returned (.int .i64 0)/\cR (fun b=>b=bm) w w'/\bi prog 175 w' bm (pre.length+1) (iV (pre++[(v,s)])):=by
 have HE:=aa he;clear he;obtain⟨tv,sv,rfl,ew,fL⟩:=hv;obtain⟨tp,tc,rfl,_,_⟩:=ew.cap;obtain⟨sp,sc,rfl,_,_⟩:=fL.cap;obtain⟨av,Oz,rfl,mC,hst⟩:=hs;obtain⟨ap,ac,rfl,_,_⟩:=mC.cap;obtain⟨eN,eR,rfl,_,_⟩:=hst.cap;clear mC hst ew fL;have hA1:=ae w (.cells (Taf v tp tc sp sc) 57);have hA2:=ae (w.alloc (.cells (Taf v tp tc sp sc) 57)) (.cells (Tae s ap ac eN eR) 88);have lj:=aa (b9 (w.alloc (.cells (Taf v tp tc sp sc) 57)) (.cells (Tae s ap ac eN eR) 88));have HB:=aa (hA1.trans (hA2.mono hA1.size));clear hA1 hA2;obtain⟨kl,Tt⟩:=DX s.pool s.device hp hd;have HK:=aa Tt;clear Tt hp hd;have HM:=aa (hM.block (HB.o.block _ hM.lt));clear hM;have ht:=(HB.o.cell (p:=Bt) Ue).trans DB;clear DB;go_enter func130,ntmps130
 go_upto_region 1 with(fail);rw[cW]at lj;generalize hW1:World.alloc (World.alloc w _) _=W1 at *;generalize XL:w.heap.size+1=Bs at *;clear hW1;have hlk:=(bi.look HM.o EI underlying173 (wY W1) HK.o).1;rw[AZ]at hlk;obtain⟨w',hst,hc',hg',hz'⟩:=bi.store HM.o EI underlying173 (rr hl TcQ) HK.o (.bool true);have HC:=aa hc';clear hc';have VT:Hid (cR (fun b=>b=bm) w w'):=aa ((cR.of_below HB.o).trans (cR.grown hg') (fun i e=>.inl e));clear hg' hz';have sL:=cr lj.o;have s2:=sL 2 _ rfl;have s7:=sL 7 _ rfl;have s8:=sL 8 _ rfl;clear sL;by_cases hk:s.kind=6
 ·have hkb:(s.kind != 6)=false:=by simpa using hk
  rw[HE.o hk]at hlk;have HK6:=aa hk;clear hk;go_wp2;go_ret;exact⟨rfl,VT.o,HC.o.congr fun key _ _=>yU pre v s HK6.o key⟩
 have hkb:(s.kind != 6)=true:=by simpa using hk
 have HK6:=aa hk;clear hk;clear hlk hst;go_wp2;go_ret;exact⟨rfl,cR.of_below HB.o,(HM.o.mono (Nat.le_succ _)).congr fun key _ _=>yN pre v s HK6.o key⟩
attribute [local go_sem] run_makeMap_plain
theorem Aa{ok:Nat->Prop}(g:af)(a:bN)(bc:Nat)(w:World)(kB:gY w bc g a)(hg:dN ok w g a)(hf:UQ g)(ho:FL g)(he:(pE g).2=0) :
  Calls prog 77 #[.pointer (some bc)] w (OkM w):=by
 have hr1:(bD CQ [] (aA g.F9)).2=0:=by
  unfold pE at he;split at he
  ·assumption
  exact he
 have hr2:(bD IW [] (aA g.F9)).2=0:=by
  unfold pE at he;rwa[aw hr1]at he
 have HR1:=aa (fun a b v s e=>Hd hr1 a b v s e);have E3:=aa (fun a b v s e=>Hd hr2 a b v s e);clear hr1 hr2 he;have jt:=kB.lt;have I3:=aa kB;obtain⟨sm,hblk,_⟩:=kB;have nw:Hid (bX w bc sm g a):=aa hblk;clear hblk;have Yw:=aa hg;have HG:=aa hg.Gb;have HF:=aa hf;have HO:=aa ho;have CD:=ho.dl;obtain⟨vp,vc,sT,ao8,ap0⟩:=hg.Gb.cap;clear hg hf ho;injection sT with e1 e2 e3;obtain⟨ID,TJ,TK,G3,G4,Ge,Hb,Hc⟩:=a;dsimp only at e1 e2 e3;subst e1;subst e3;clear e2;have hA1:=ae w (.map #[] 0);have hA2:=ae (w.alloc (.map #[] 0)) (.cells #[.map (some w.heap.size)] 170);have hm1:=bi.made prog 9 w;have hN2:=b9 (w.alloc (.map #[] 0)) (.cells #[.map (some w.heap.size)] 170);rw[cW]at hN2;have Nk:=aa hN2;clear hN2;have QY:=aa (hm1.block (hA2.block _ hm1.lt));have cm:=aa (hA1.trans (hA2.mono hA1.size));clear hA1 hA2 hm1;obtain⟨-,-,-,-,-,-,g6,-,-⟩:=bX.cells (sm:=sm) ((cm.o.block bc jt).trans nw.o);go_enter func77,ntmps77
 go_upto_region 3 with(fail);generalize hW1:World.alloc (World.alloc w _) _=W1 at *;clear hW1 g6;have AG:=aa (show NJ w.heap.size W1 w.heap.size (w.heap.size+1) [] from⟨⟨QY.o.congr (fun key _ _=>Cs key),TcO,TcO,fun p hp=>absurd hp TcO,fun p hp=>absurd hp TcO⟩,fun p hp=>absurd hp TcO,cr Nk.o _ _ rfl,fun p hp=>absurd hp TcO,aq Nk.o⟩);clear QY Nk;go_loopw[17] (fun i wr=>∃k:Nat,k<=g.Gb.length/\i=.int .i64 k/\Below w.heap.size w wr/\∃L:List (az × Nat),L.map (·.1)=g.Gb.take k/\NJ w.heap.size wr w.heap.size (w.heap.size+1) L) (fun i _=>g.Gb.length-(intOf i).toNat)
 exact⟨0,cg _,rfl,cm.o,[],TcO,AG.o⟩;clear cm AG;obtain⟨k,hk,rfl,hB,L,hL,Rx⟩:=hrel;have HB:=aa hB;clear hB;have HL:=aa hL;clear hL;have AG:=aa Rx;clear Rx;by_cases hlt:k<g.Gb.length
 ·obtain⟨d,hd⟩:=aj g.Gb k hlt;obtain⟨b,off,us,rfl,gR,cX,ez,eE,hcv⟩:=HG.o.elem hd;obtain⟨tv,rfl,ew⟩:=eE;obtain⟨tp,tc,rfl,_,_⟩:=ew.cap;have cT:wr.heap[b]?=w.heap[b]?:=HB.o.block b cX;obtain⟨q0,q1,q2,q3,q4,q5,q6⟩:=OD cT hcv;have Ni:=ct hd;have vu:=HF.o.de d Ni;have hns:=HO.o.ns d Ni;have Qm:=aa (zn HO.o.nd hd HL.o);have G1:Hid (∀b:Nat,(L++[(d,b)]).map (·.1)=g.Gb.take (k+1)):=aa (fun b=>by rw[gl,HL.o,take_snoc' g.Gb k d hd];rfl);clear hd hcv ez cT ew Ni;have kj:=aa vu;clear vu;have hA:=ae wr (.cells (Tah d tp tc) 39);have sX:=aa (b9 wr (.cells (Tah d tp tc) 39));have cJ:=Zbl HB hA;have Pd:=aa (AG.o.below hA);have hz3:(wr.alloc (.cells (Tah d tp tc) 39)).heap.size=wr.heap.size+1:=by simp
  clear hA;go_upto_region 5 with(fail);clear q0 q1 q2 q3 q4 q5 q6;generalize hW2:World.alloc wr _=W2 at *;generalize hBd:wr.heap.size=Bd at *;clear hW2 HB AG hBd;obtain⟨E,hE⟩:∃E:Nat,d.Gc=E:=⟨d.Gc.toNat,by have:=kj.o;omega⟩;have Yx:d.Gc.toNat=E:=by omega
  have hEb:E<=1000000:=by have:=kj.o;omega
  have hS:∀w':World,Below W2.heap.size W2 w'->(w'.cell? (Tac (w.heap.size+1) 0)=some (.map (some w.heap.size))/\w'.cell? Bd=some (.string d.name)/\w'.cell? (Tac Bd 3)=some (.int .i64 (E:Int))):=fun w' e=>by
   have h2:=(e.block Bd (aq sX.o)).trans sX.o;rw[hE]at h2;exact⟨(Pd.o.below e).c,cr h2 _ _ rfl,cr h2 _ _ rfl⟩
  have HS:=aa hS;clear hS hE;have qT:=aa Yx;clear Yx;have HZ3:=aa hz3;clear hz3;refine aZ (fun w'=>w'.cell? (Tac (w.heap.size+1) 0)=some (.map (some w.heap.size))/\w'.cell? Bd=some (.string d.name)/\w'.cell? (Tac Bd 3)=some (.int .i64 (E:Int))) 6 [] TcP (HS.o _ (bj _ _).drew) (fun hHeld=>?_);refine fS 0 hHeld ?_;refine fS 1 hHeld ?_;refine fS 2 hHeld ?_;refine fS 3 hHeld ?_;refine fS 4 hHeld ?_;refine lR 5 fun K hK=>?_;have hmk:=AJ d E qT.o hEb W2.drew;go_simp;clear hmk;have hA4:=ae W2.drew (.cells ((bz [] d).map Value.bool).toArray 4);refine hK.o _ _ (HS.o _ ((bj W2.heap.size W2).drew.trans (hA4.mono TcO))) ?_;clear hK K hHeld;refine aP TcP rfl ?_;simp only[cQ,cL];have hb4:Below W2.heap.size W2 (W2.drew.alloc (.cells ((bz [] d).map Value.bool).toArray 4)):=(bj W2.heap.size W2).drew.trans (hA4.mono TcO)
  have hLl:L.length<=1000000:=by
   have:=fj List.length HL.o;rw[fW,ey]at this;omega
  obtain⟨w',hst,hm',hg',hz'⟩:=bi.store ((Pd.o.below hb4).m.map) oM underlying170 (rr hLl TcQ) (gG d.name hns) (.slice (some W2.heap.size) E E);have VW:=aa (NJ.snoc Pd.o (W:=W2.drew) (bj W2.heap.size W2).drew cJ.o.size kj.o qT.o Qm.o hm' hg' hz');have Mt:Hid (Below w.heap.size w w'):=aa ((cJ.o.trans (hb4.mono cJ.o.size)).trans ((cR.grown hg').below (B:=w.heap.size) (cA cJ.o.size hb4.size) (fun q e=>by omega)));replace hst:(Instr.mapUpdate 170 (.map (some w.heap.size)) (.string d.name) (.slice (some W2.heap.size) E E)).run prog (W2.alloc (.cells ((bz [] d).map Value.bool).toArray 4)).drew=.ok () w':=hst;clear hm' hg' hz' hb4 hA4;go_wp2;go_roundw;exact⟨k+1,TcN,TcR,Mt.o,_,G1.o _,VW.o⟩;simp[intOf];omega
 obtain rfl:k=g.Gb.length:=by omega
 rw[cI]at HL;have hlt3:w.heap.size+1<wr.heap.size:=AG.o.bt;go_wp2_with fail;refine(ni (ok:=fun b=>ok b/\b<w.heap.size) (F:=Gm L) 128 [.pointer (some (Tac (w.heap.size+1) 0))] (fun l W=>by go_simp) g _ bc (fun pre W=>kK W L (lU pre)) wr (I3.o.below HB.o) (Yw.o.mv ⟨HB.o.size,fun b hb ho=>⟨⟨ho,hb⟩,HB.o.block b hb⟩⟩) HF.o.sz ?_ (fun _ _ _ h hb=>h.below hb) AG.o.t ?_).mono ?_
 ·rintro b ⟨p,hp,rfl⟩;have:=AG.o.m.lt p hp;exact⟨this.1,fun q=>this.2.1 q.2⟩
 ·intro pre v s post hp W u1 u2 hm hi hv hs;obtain⟨m1,m2⟩:=jZ hp;obtain⟨f1,f2,f3,f4,f5⟩:=HO.o.sg v m1 s m2;have N9:=AG.o.m;refine(zb (ok:=fun b=>ok b/\b<w.heap.size) L (lU pre) w.heap.size (w.heap.size+1) v s u1 u2 W ((hm.cell (p:=⟨w.heap.size+1,0,none⟩) AG.o.bt (fun⟨p,hp,e⟩=>AG.o.n p hp e)).trans AG.o.c) (cC AG.o.bt hm.size)
   ((⟨N9.map,N9.nb,N9.nn,fun p hp=>⟨(N9.lt p hp).1,fun q=>(N9.lt p hp).2.1 q.2,(N9.lt p hp).2.2⟩,N9.de⟩:uF (fun b=>ok b/\b<w.heap.size) wr L w.heap.size).mod hm) AG.o.n hi hv hs f1 f2 (by rw[HL.o];exact f3) (by
    have:=HR1.o pre post v s hp;rw[List.nil_append]at this;unfold CQ at this;split at this
    ·cases this
    exact Bool.eq_false_iff.2 ‹_›)).mono ?_
  rintro e W' ⟨rfl,h2,h3⟩;refine⟨rfl,h2,?_⟩;show kK W' L (lU (pre++[(v,s)]));rw[wm];exact h3
 rintro e w3 ⟨rfl,hm3,-⟩;have cJ:Hid (Below w.heap.size w w3):=aa (HB.o.trans (hm3.below HB.o.size (fun b ⟨p,hp,e⟩=>by have:=(AG.o.m.lt p hp).2.1;omega)));have hlt4:wr.heap.size<=w3.heap.size:=hm3.size;clear hm3 AG HL HB;have hA1:=ae w3 (.map #[] 0);have hA2:=ae (w3.alloc (.map #[] 0)) (.cells #[.map (some w3.heap.size)] 173);have hm1:=bi.made prog 175 w3;have hN2:=b9 (w3.alloc (.map #[] 0)) (.cells #[.map (some w3.heap.size)] 173);rw[cW]at hN2;have Nk:=aa hN2;clear hN2;have QY:=aa (hm1.block (hA2.block _ hm1.lt));have cm:=aa (hA1.trans (hA2.mono hA1.size));clear hA1 hA2 hm1;go_wp2_with fail;generalize hW4:World.alloc (World.alloc w3 _) _=W4 at *;clear hW4;have eI:=Zbl cJ cm.o;have MC:=aq Nk.o;have mA:=cJ.o.size;refine(ni (ok:=fun b=>ok b/\b<w.heap.size) (F:=fun b=>b=w3.heap.size) 130 [.pointer (some (Tac (w3.heap.size+1) 0))] (fun l W=>by go_simp) g _ bc (fun pre W=>bi prog 175 W w3.heap.size pre.length (iV pre)) W4 (I3.o.below eI.o) (Yw.o.mv ⟨eI.o.size,fun b hb ho=>⟨⟨ho,hb⟩,eI.o.block b hb⟩⟩) HF.o.sz ?_ (fun _ _ _ h hb=>h.block (hb.block _ h.lt)) ?_ ?_).mono ?_
 ·rintro b rfl;exact⟨QY.o.lt,fun q=>by have:=q.2;omega⟩
 ·refine QY.o.congr fun key _ _=>?_
  unfold iV;rw[bh TcO]
 ·intro pre v s post hp W u1 u2 hm hi hv hs;obtain⟨m1,m2⟩:=jZ hp;obtain⟨f1,f2,f3,f4,f5⟩:=HO.o.sg v m1 s m2;have hpl:pre.length<=1000000:=by
   have:=HO.o.pl;rw[hp,cD]at this;omega
  refine(zY (ok:=fun b=>ok b/\b<w.heap.size) pre w3.heap.size (w3.heap.size+1) v s u1 u2 W ((hm.cell (p:=⟨w3.heap.size+1,0,none⟩) MC (by show ¬w3.heap.size+1=_;omega)).trans (by simp[World.cell?,Nk.o])) (cC MC hm.size) hi hpl hv hs f4 f5 (fun hk=>by
   have:=E3.o pre post v s hp;rw[List.nil_append]at this;unfold IW at this;rw[aw hk]at this;unfold pY;split at this
   ·cases this
   exact Bool.eq_false_iff.2 ‹_›)).mono ?_
  rintro e W' ⟨rfl,h2,h3⟩;refine⟨rfl,h2,?_⟩;show bi prog 175 W' w3.heap.size (pre++[(v,s)]).length (iV (pre++[(v,s)]));rw[cD];exact h3
 rintro e w5 ⟨rfl,hm5,-⟩;have eK:Hid (Below w.heap.size w w5):=aa (eI.o.trans (hm5.below eI.o.size (fun b e=>by omega)));clear hm5;go_wp2;go_ret2;exact⟨rfl,eK.o⟩
end Go.Proofs.YtillcmhjhajimaaGreatDoor
namespace Go.Proofs.YtillcmhjhajimaaGreatDoor
open Go.Proofs.Tryz
open Go.RowKit Go.Maps Go.Shelf
variable {g:af}{v:ay}{s:aB}{r:aY}{d:az}{x:List (Int × Int)}{k:Nat}
structure GOk(g:af):Prop where
 gi:NL g
 mk0:(mchk g).2=0
theorem LH(h4:(iP g).2=0)(hv:v∈g.F9)(hs:s∈v.Gf)(h6:s.kind=6):dD s false=[]:=by
 obtain⟨k,hk⟩:=fc hs;obtain⟨x,hx,-,-,⟨-,h2⟩,-,-,hl,-⟩:=DD (Kv h4 hv hk).1;rw[h6]at hx;injection hx with hx;subst hx;have ha:s.Ga=[]:=fX (by dsimp only at h2;omega);have OX:s.log.toList.isEmpty=true:=by simpa using hl
 unfold dD;rw[ha,OX];rfl
theorem Tbc{p:Prop}(h:p:=by
 have:(v,s)∈aA g.F9:=List.mem_flatMap.2 ⟨v,hv,List.mem_map.2 ⟨s,hs,rfl⟩⟩;obtain⟨a,b,e⟩:=List.append_of_mem this;have:=Hd h6 a b v s e;unfold xh at this;split at this
 ·assumption
 cases this):p:=h
theorem Mg(h6:(qG g).2=0)(hv:v∈g.F9)(hs:s∈v.Gf):CX g s=true:=by
 exact Tbc
theorem L8{ok:Nat->Prop}(g:af)(a:bN)(w:World)(hg:dN ok w g a)(hi:NL g)(hS:AW w)(hm:(mchk g).2=0) :
  Calls prog 42 #[.agg (Tad g a)] w (OkM w):=by
 obtain⟨h1,h2,h3,h4,h5,h6,h7,h8⟩:=Dg hm;have HR:=aa (⟨h1,h2,h3,h4,h5,h6,h7,h8⟩:_/\_/\_/\_/\_/\_/\_/\_);clear h1 h2 h3 h4 h5 h6 h7 h8 hm;have HG:=aa hg;clear hg;have HI:=aa hi;clear hi;have MD:=aa hS;clear hS;have cU:=aa (ae w (.cells (Tad g a) 32));have CN:=aa (b9 w (.cells (Tad g a) 32));go_enter func42,ntmps42
 go_upto_region 1 with(fail);generalize hW1:World.alloc w _=W1 at *;generalize Ms:w.heap.size=Bg at *;clear hW1;have hS:∀w':World,Below W1.heap.size W1 w'->(w'.cell? Bg=some (.string g.name)/\w'.cell? (Tac Bg 1)=some (.int .u64 g.id)/\w'.cell? (Tac Bg 2)=some (.int .i64 g.seq)/\w'.cell? (Tac Bg 3)=some (.int .i64 g.Gd)/\w'.cell? (Tac Bg 4)=some (.int .i64 g.next)/\w'.cell? (Tac Bg 5)=some (.slice a.tp g.tags.length a.tc)/\w'.cell? (Tac Bg 6)=some (.slice a.dp g.Gb.length a.dc)/\w'.cell? (Tac Bg 7)=some (.slice a.vp g.F9.length a.vc)/\w'.cell? (Tac Bg 8)=some (.slice a.hp g.history.length a.hc)):=fun w' e=>by
  have h2:=(e.block Bg (aq CN.o)).trans CN.o;exact⟨cr h2 _ _ rfl,cr h2 _ _ rfl,cr h2 _ _ rfl,cr h2 _ _ rfl,cr h2 _ _ rfl,cr h2 _ _ rfl,cr h2 _ _ rfl,cr h2 _ _ rfl,cr h2 _ _ rfl⟩
 have HS:=aa hS;clear hS;refine aZ (fun w'=>w'.cell? Bg=some (.string g.name)/\w'.cell? (Tac Bg 1)=some (.int .u64 g.id)/\w'.cell? (Tac Bg 2)=some (.int .i64 g.seq)/\w'.cell? (Tac Bg 3)=some (.int .i64 g.Gd)/\w'.cell? (Tac Bg 4)=some (.int .i64 g.next)/\w'.cell? (Tac Bg 5)=some (.slice a.tp g.tags.length a.tc)/\w'.cell? (Tac Bg 6)=some (.slice a.dp g.Gb.length a.dc)/\w'.cell? (Tac Bg 7)=some (.slice a.vp g.F9.length a.vc)/\w'.cell? (Tac Bg 8)=some (.slice a.hp g.history.length a.hc)) 2 [] TcP (HS.o _ (bj W1.heap.size W1).drew) (fun hHeld=>?_);refine fS 0 hHeld ?_;refine lR 1 fun K hK=>?_;go_simp;refine(zq _).mono ?_;rintro e w2 ⟨sm,rfl,hmap,hb2⟩;have cm:Hid (Below W1.heap.size W1 w2):=aa ⟨hb2.os,hb2.tape,hb2.output,hb2.size,hb2.block⟩;have Pk:=aa hmap;clear hmap hb2;refine hK.o _ _ (HS.o _ cm.o) ?_;clear hK K hHeld HS;refine aP TcP rfl ?_;simp only[cQ,cL];have hA:=ae w2 (.cells #[.string g.name,.int .u64 g.id,.int .i64 g.seq,.int .i64 g.Gd,.int .i64 g.next,.slice a.tp g.tags.length a.tc,.slice a.dp g.Gb.length a.dc,.slice a.vp g.F9.length a.vc,.slice a.hp g.history.length a.hc,.map (some sm)] 121);have hN:=b9 w2 (.cells #[.string g.name,.int .u64 g.id,.int .i64 g.seq,.int .i64 g.Gd,.int .i64 g.next,.slice a.tp g.tags.length a.tc,.slice a.dp g.Gb.length a.dc,.slice a.vp g.F9.length a.vc,.slice a.hp g.history.length a.hc,.map (some sm)] 121);have I3:Hid (gY (w2.alloc (.cells #[.string g.name,.int .u64 g.id,.int .i64 g.seq,.int .i64 g.Gd,.int .i64 g.next,.slice a.tp g.tags.length a.tc,.slice a.dp g.Gb.length a.dc,.slice a.vp g.F9.length a.vc,.slice a.hp g.history.length a.hc,.map (some sm)] 121)) w2.heap.size g a):=aa ⟨sm,hN,Pk.o.block (hA.block _ Pk.o.lt)⟩;have cJ:Hid (Below Bg w _):=aa ((cU.o.trans (cm.o.mono (by have:=cU.o.size;omega))).trans (hA.mono (by have:=cU.o.size;have:=cm.o.size;omega)));have Hh:=aq hN;clear hA hN Pk
 go_upto_region 2 with(fail);generalize hW3:World.alloc w2 _=W3 at *;generalize aa9:w2.heap.size=bc at *;clear hW3;have HA4:=aa (ae W3 (.cells #[.func (.func 71) #[.pointer (some bc)] #[],.func (.func 72) #[.pointer (some bc)] #[],.func (.func 73) #[.pointer (some bc)] #[],.func (.func 74) #[.pointer (some bc)] #[],.func (.func 75) #[.pointer (some bc)] #[],.func (.func 76) #[.pointer (some bc)] #[],.func (.func 77) #[.pointer (some bc)] #[],.func (.func 78) #[.pointer (some bc)] #[]] 122));have HN4:=aa (b9 W3 (.cells #[.func (.func 71) #[.pointer (some bc)] #[],.func (.func 72) #[.pointer (some bc)] #[],.func (.func 73) #[.pointer (some bc)] #[],.func (.func 74) #[.pointer (some bc)] #[],.func (.func 75) #[.pointer (some bc)] #[],.func (.func 76) #[.pointer (some bc)] #[],.func (.func 77) #[.pointer (some bc)] #[],.func (.func 78) #[.pointer (some bc)] #[]] 122));go_upto_region 4 with(fail);generalize hW4:World.alloc W3 _=W4 at *;generalize Rz:W3.heap.size=Br at *;clear hW4;have eI:=aa (cJ.o.trans (HA4.o.mono (by have:=cJ.o.size;omega)));have V9:Hid (gY W4 bc g a):=aa (I3.o.below ⟨HA4.o.os,HA4.o.tape,HA4.o.output,HA4.o.size,fun k hk=>HA4.o.block k TcN⟩);clear HA4 I3 cJ cm cU CN;go_loopw[33] (fun i wr=>∃k:Nat,k<=8/\i=.int .i64 k/\Below W4.heap.size W4 wr) (fun i _=>8-(intOf i).toNat)
 exact⟨0,TcN,rfl,bj _ _⟩;obtain⟨k,hk,rfl,hb⟩:=hrel;have HB:=aa hb;clear hb;have fy:Hid (Below w.heap.size w wr):=aa (by rw[Ms];exact eI.o.trans (HB.o.mono (by have:=eI.o.size;omega)));have th:=V9.o.below HB.o;have MI:=HG.o.mv (Mv.of fy.o);have HSW:=MD.o.below fy.o;have hN:=(HB.o.block Br (aq HN4.o)).trans HN4.o;by_cases hlt:k<8
 ·have hk8:k=0\/k=1\/k=2\/k=3\/k=4\/k=5\/k=6\/k=7:=by omega
  obtain⟨h1,h2,h3,h4,h5,h6,h7,h8⟩:=HR.o;have q:∃Qj,wr.cell? (Br,k)=some (.func (.func Qj) #[.pointer (some bc)] #[])/\(∀(l:Array Value) (W:World),Sem.run prog (callFunc Qj l) W=.ok (.enter Qj l) W)/\Calls prog Qj #[.pointer (some bc)] wr (OkM wr):=by
   have hx:=(iT h1).1;have hsz:=mZ h4;rcases hk8 with rfl|rfl|rfl|rfl|rfl|rfl|rfl|rfl
   ·exact⟨_,cr hN _ _ rfl,fun l W=>by go_simp,LZ (ok:=ok) g a bc wr th MI HI.o.tx HSW h1⟩
   ·exact⟨_,cr hN _ _ rfl,fun l W=>by go_simp,LB (ok:=ok) g a bc wr th MI HI.o.tx ⟨hx.2.2.1,hx.2.2.2.1⟩ HSW fun k d hd=>by have:=ll (i:=0) h2 k d hd;rwa[eJ]at this⟩
   ·exact⟨_,cr hN _ _ rfl,fun l W=>by go_simp,FR (ok:=ok) g a bc wr th MI HI.o.tx HSW fun k v hv=>by have:=ll (i:=0) h3 k v hv;rwa[eJ]at this⟩
   ·exact⟨_,cr hN _ _ rfl,fun l W=>by go_simp,Bo (ok:=ok) g a bc wr th MI HI.o.sz ⟨hx.2.2.1,hx.2.2.2.1⟩ HI.o.kw (fun v hv k s hs=>Kv h4 hv hs) fun v hv s hs=>(hsz v hv s hs).fm⟩
   ·exact⟨_,cr hN _ _ rfl,fun l W=>by go_simp,vM (ok:=ok) g a bc wr th MI (zm HI.o h1 h2 h3 h4) HSW (Dh h5) fun v hv s hs=>LH h4 hv hs⟩
   ·exact⟨_,cr hN _ _ rfl,fun l W=>by go_simp,LP (ok:=ok) g a bc wr th MI (zm HI.o h1 h2 h3 h4) (Cg h3 h4) hsz fun v hv s hs=>Mg h6 hv hs⟩
   ·exact⟨_,cr hN _ _ rfl,fun l W=>by go_simp,Aa (ok:=ok) g a bc wr th MI (zm HI.o h1 h2 h3 h4) (Er HI.o h1 h2 h3 h4 h5) h7⟩
   exact⟨_,cr hN _ _ rfl,fun l W=>by go_simp,Mf (ok:=ok) g a bc wr th MI HI.o.sz (Ao (iT h1).2 h3 h4) (yB HI.o) (fun v hv=>by have:=(nH h3 v hv).2.1;unfold maxLen;omega) fun v hv=>sS h8 v hv⟩
  obtain⟨Qj,q0,hfn,hc⟩:=q;have MH:=aa hfn;have HC:=aa hc;clear h1 h2 h3 h4 h5 h6 h7 h8 hk8 hfn hc hN th MI HSW;go_wp2_with fail;rw[MH.o];refine HC.o.mono ?_;rintro e w5 ⟨rfl,hb5⟩;have eK:=Zbl HB hb5;clear HC hb5 fy HB q0;exact Tb2
 obtain rfl:k=8:=by omega
 clear hN th MI HSW;go_wp2;go_ret2;exact⟨rfl,fy.o⟩
theorem Tdx{p:Prop}(h:p:=by rw[HT.o,HQ.o];rfl):p:=h
theorem Tef{p:Prop}(h:p:=by simp[eu,Sz]):p:=h
theorem Tdw{p:Prop}(h:p:=by rw[HPE.o,V7.o];rfl):p:=h
theorem TdQ{p:Prop}(h:p:=by rw[yi.o];simp):p:=h
theorem yQ{ok:Nat->Prop}(g:af)(a:bN)(r:aY)(w:World)(hg:dN ok w g a)(hi:GOk g)(hr:dK r)(hS:AW w) :
  Calls prog 19 #[.agg (Tad g a),.agg (Taj r)] w (FY (kP g r) w):=by
 have HG:=aa hg;clear hg;have HI:=aa hi;clear hi;have MD:=aa hS;clear hS;obtain⟨hl,hs,he,hp,ht,hn,hq⟩:=hr;have hA1:=ae w (.cells (Tad g a) 32);have hA2:=ae (w.alloc (.cells (Tad g a) 32)) (.cells (Taj r) 24);have hN1:=b9 w (.cells (Tad g a) 32);have hN2:=b9 (w.alloc (.cells (Tad g a) 32)) (.cells (Taj r) 24);rw[cW]at hN2;have Fm:Hid (jF ((w.alloc (.cells (Tad g a) 32)).alloc (.cells (Taj r) 24)) w.heap.size (w.heap.size+1) g a r):=aa ⟨(hA2.block _ (aq hN1)).trans hN1,hN2⟩;have cU:=aa (hA1.trans (hA2.mono hA1.size));clear hA1 hA2 hN1 hN2;go_enter func19,ntmps19
 go_upto_region 1 with(fail);generalize hW1:World.alloc (World.alloc w _) _=W1 at *;generalize Ms:w.heap.size=Bg at *;generalize Rz:Bg+1=Br at *;clear hW1;have Tm:Hid (Below w.heap.size w W1):=aa (by rw[Ms];exact cU.o);clear cU;have gL:=Fm.o.gc;obtain⟨g0,g1,g2,g3,g4,g5,g6,g7,g8⟩:=xr gL;clear gL;go_wp2_with fail;clear g0 g1 g2 g3 g4 g5 g6 g7 g8;refine(L8 (ok:=ok) g a W1 (HG.o.mv (Mv.of Tm.o)) HI.o.gi (MD.o.below Tm.o) HI.o.mk0).mono ?_;rintro e w2 ⟨rfl,hb2⟩;have cm:=Zbl Tm hb2;have aq6:=aa (Fm.o.below hb2);clear hb2 Tm Fm;have HPE:Hid (kP g r=yZ g r):=aa (aw HI.o.mk0);go_upto_region 4 with(fail);have gL:=aq6.o.gc;obtain⟨g0,g1,g2,g3,g4,g5,g6,g7,g8⟩:=xr gL;clear gL;have rL:=aq6.o.rc;have r5:=rL 5 _ rfl;clear rL;have Q5:=aa (fA (ok:=fun b=>ok b/\b<w.heap.size) g a r.near w2 ((b6.moves aN.moves).mv ⟨cm.o.size,fun b hb ho=>⟨⟨ho,hb⟩,cm.o.block b hb⟩⟩ (dN.F9 HG.o)) HI.o.gi.sz.vl HI.o.gi.sz.vz);go_wp2_with fail;clear g0 g1 g2 g3 g4 g5 g6 g7 g8 r5;refine Q5.o.mono ?_;clear Q5;rintro e w3 ⟨u,rfl,sA,hb3⟩;have cJ:=Zbl cm hb3;have C6:=aa (aq6.o.below hb3);have Tb:Hid (xM g r=if r.near.toList.isEmpty then !OC r else(aM g.F9 r.near).isSome):=aa rfl;generalize (aM g.F9 r.near).isSome=YW at *;obtain⟨tv,sv,rfl,ew,fL⟩:=sA;obtain⟨tp,tc,rfl,_,_⟩:=ew.cap;obtain⟨sp,sc,rfl,hsc1,hsc2⟩:=fL.cap;clear ew fL hb3 cm aq6;generalize (aM g.F9 r.near).getD eY=v at *;have hA:=ae w3 (.cells (Taf v tp tc sp sc) 57);have eI:=Zbl cJ hA;have Sy:=aa (C6.o.below hA);clear hA cJ C6;go_upto_region 5 with(fail);generalize hW4:World.alloc w3 _=W4 at *;clear hW4;have rL:=Sy.o.rc;obtain⟨r0,r1,r2,r3,r4,r5,r6⟩:=se rL;clear rL;go_cut[9] (fun v wc=>v=.bool (OC r)/\wc=W4)
 case first =>
  cases h2:(r.Gg==2)with
  |true =>
   go_wp2;go_meet;exact⟨by simp[OC,h2],rfl⟩
  |false =>
   cases h3:(r.Gg==3)with
   |true =>
    go_wp2;go_meet;exact⟨by simp[OC,h3],rfl⟩
   |false =>
    go_wp2;go_meet;exact⟨by simp[OC,h2,h3],rfl⟩
 case rest =>
  obtain⟨rfl,rfl⟩:=hcut;generalize OC r=c at *;have HW:=aa uT;have V7:Hid (yZ g r=if Dr r=false then 1 else if Ek r.Gg 5=false then 17 else if xM g r=false then 12 else if(eu r.tag&&eu r.sep)=false then 2 else 0):=aa rfl;go_upto_region 7 with(fail);go_cut[34] (fun v wx=>v=.bool (!Dr r)/\wx=wc)
  case first =>
   have hc1:=uT r.Gi 6 wc;have hc2:=uT r.Gh 6 wc;have hc3:=uT r.Gc 4096 wc;have yi:Hid (Dr r=(Ek r.Gi 6&&Ek r.Gh 6&&decide (r.Gi*r.Gh<=6)&&Ek r.Gc 4096)):=aa rfl;cases h1:Ek r.Gi 6 with
   |false =>
    rw[h1]at hc1 yi;have H1:=aa h1;clear h1;go_wp2_with(first|((with_reducible refine hc1.mono ?_);rintro e w5 ⟨rfl,rfl⟩)|((with_reducible refine hc2.mono ?_);rintro e w5 ⟨rfl,rfl⟩)|((with_reducible refine hc3.mono ?_);rintro e w5 ⟨rfl,rfl⟩))
    go_meet;exact⟨TdQ,rfl⟩
   |true =>
    have hb1:1<=r.Gi/\r.Gi<=6:=by simpa[Ek]using h1
    rw[h1]at hc1 yi;have H1:=aa h1;clear h1;cases h2:Ek r.Gh 6 with
    |false =>
     rw[h2]at hc2 yi;have H2:=aa h2;clear h2;go_wp2_with(first|((with_reducible refine hc1.mono ?_);rintro e w5 ⟨rfl,rfl⟩)|((with_reducible refine hc2.mono ?_);rintro e w5 ⟨rfl,rfl⟩)|((with_reducible refine hc3.mono ?_);rintro e w5 ⟨rfl,rfl⟩))
     go_meet;exact⟨TdQ,rfl⟩
    |true =>
     have hb2:1<=r.Gh/\r.Gh<=6:=by simpa[Ek]using h2
     rw[h2]at hc2 yi;have H2:=aa h2;clear h2;have hm1:0<=r.Gi*r.Gh:=oA TcN TcN;have hm2:r.Gi*r.Gh<=6*6:=tW hb1.2 hb2.2 TcN TcN;have hwr:IntKind.i64.wrap (r.Gi*r.Gh)=r.Gi*r.Gh:=dy _ TcN;have Nf:=aa hm1;clear hm1;have QY:=aa hm2;clear hm2;by_cases h3:r.Gi*r.Gh<=6
     ·have hp:decide (6<r.Gi*r.Gh)=false:=cN TcN;rw[eA h3]at yi;have H3:=aa h3;clear h3;cases h4:Ek r.Gc 4096 with
      |false =>
       rw[h4]at hc3 yi;have H4:=aa h4;clear h4;go_wp2_with(first|((with_reducible refine hc1.mono ?_);rintro e w5 ⟨rfl,rfl⟩)|((with_reducible refine hc2.mono ?_);rintro e w5 ⟨rfl,rfl⟩)|((with_reducible refine hc3.mono ?_);rintro e w5 ⟨rfl,rfl⟩))
       go_meet;exact⟨TdQ,rfl⟩
      |true =>
       rw[h4]at hc3 yi;have H4:=aa h4;clear h4;go_wp2_with(first|((with_reducible refine hc1.mono ?_);rintro e w5 ⟨rfl,rfl⟩)|((with_reducible refine hc2.mono ?_);rintro e w5 ⟨rfl,rfl⟩)|((with_reducible refine hc3.mono ?_);rintro e w5 ⟨rfl,rfl⟩))
       go_meet;exact⟨TdQ,rfl⟩
     have hp:decide (6<r.Gi*r.Gh)=true:=eA TcN;rw[cN h3]at yi;have H3:=aa h3;clear h3;go_wp2_with(first|((with_reducible refine hc1.mono ?_);rintro e w5 ⟨rfl,rfl⟩)|((with_reducible refine hc2.mono ?_);rintro e w5 ⟨rfl,rfl⟩)|((with_reducible refine hc3.mono ?_);rintro e w5 ⟨rfl,rfl⟩))
     go_meet;exact⟨TdQ,rfl⟩
  case rest =>
   obtain⟨rfl,rfl⟩:=hcut;have eK:=aa eI.o;cases sB:Dr r with
   |false =>
    rw[sB,aw rfl]at V7;go_wp2;go_ret;exact⟨Tdw,eI.o⟩
   |true =>
    rw[sB,bh TcO]at V7;have yi:=aa sB;clear sB;by_cases hp1:1<=r.Gg
    ·by_cases hp5:r.Gg<=5
     ·have hw5:Ek r.Gg 5=true:=by simp[Ek,hp1,hp5]
      rw[hw5,bh TcO]at V7;have HW5:=aa hw5;clear hw5;have hq1:decide (r.Gg<1)=false:=cN TcN;have hq5:decide (5<r.Gg)=false:=cN TcN;go_upto_region 11 with(fail);go_cut[71] (fun v wx=>v=.bool (!xM g r)/\wx=wc)
      case first =>
       cases hne:r.near.toList.isEmpty with
       |true =>
        rw[hne,aw rfl]at Tb;cases c with
        |true =>
         go_wp2;go_meet;exact⟨by rw[Tb.o];rfl,rfl⟩
        |false =>
         go_wp2;go_meet;exact⟨by rw[Tb.o];rfl,rfl⟩
       |false =>
        rw[hne,bh TcO]at Tb;cases YW with
        |true =>
         go_wp2;go_meet;exact⟨by rw[Tb.o];rfl,rfl⟩
        |false =>
         go_wp2;go_meet;exact⟨by rw[Tb.o];rfl,rfl⟩
      case rest =>
       obtain⟨rfl,rfl⟩:=hcut;cases sy:xM g r with
       |false =>
        rw[sy,aw rfl]at V7;have HN:=aa sy;clear sy;go_wp2;go_ret;exact⟨Tdw,eI.o⟩
       |true =>
        rw[sy,bh TcO]at V7;have HN:=aa sy;clear sy;go_upto_region 13 with(fail);go_cut[87] (fun v wx=>v=.bool (!(eu r.tag&&eu r.sep))/\Below wc.heap.size wc wx)
        case first =>
         have ht1:=ry r.tag wc ht;cases PE:r.tag.toList.isEmpty with
         |true =>
          have HT:Hid (eu r.tag=true):=aa (by simp[eu,PE]);have hq1:=ry r.sep wc hq;cases Sz:r.sep.toList.isEmpty with
          |true =>
           have HQ:Hid (eu r.sep=true):=aa Tef;go_wp2;go_meet;exact⟨Tdx,bj _ _⟩
          |false =>
           have HQ:Hid (eu r.sep=mr r.sep):=aa Tef;cases XI:mr r.sep with
           |true =>
            rw[XI]at hq1 HQ;have WM:=aa XI;clear XI;go_wp2_with((with_reducible refine hq1.mono ?_);rintro e w5 ⟨rfl,hb5⟩)
            go_meet;exact⟨Tdx,hb5⟩
           |false =>
            rw[XI]at hq1 HQ;have WM:=aa XI;clear XI;go_wp2_with((with_reducible refine hq1.mono ?_);rintro e w5 ⟨rfl,hb5⟩)
            go_meet;exact⟨Tdx,hb5⟩
         |false =>
          have HT:Hid (eu r.tag=mr r.tag):=aa (by simp[eu,PE]);cases XI:mr r.tag with
          |false =>
           rw[XI]at ht1 HT;have WM:=aa XI;clear XI;go_wp2_with((with_reducible refine ht1.mono ?_);rintro e w5 ⟨rfl,hb5⟩)
           go_meet;exact⟨by rw[HT.o];rfl,hb5⟩
          |true =>
           rw[XI]at ht1 HT;have WM:=aa XI;clear XI;go_wp2_with fail;refine ht1.mono ?_;rintro e w5 ⟨rfl,hb5⟩;have eK:=aa hb5;have rL:=(Sy.o.below hb5).rc;clear r0 r1 r2 r3 r4 r5 r6 hb5;have r6:=rL 6 _ rfl;clear rL;have Lz:=aa (ry r.sep w5 hq);clear ht1;cases Sz:r.sep.toList.isEmpty with
           |true =>
            have HQ:Hid (eu r.sep=true):=aa Tef;go_wp2;go_meet;exact⟨Tdx,eK.o⟩
           |false =>
            have HQ:Hid (eu r.sep=mr r.sep):=aa Tef;cases XI:mr r.sep with
            |true =>
             rw[XI]at Lz HQ;have WN:=aa XI;clear XI;go_wp2_with fail;refine Lz.o.mono ?_;rintro e w6 ⟨rfl,hb6⟩;have Tq:=Zbl eK hb6;clear hb6 r6;go_wp2;go_meet;exact⟨Tdx,Tq.o⟩
            |false =>
             rw[XI]at Lz HQ;have WN:=aa XI;clear XI;go_wp2_with fail;refine Lz.o.mono ?_;rintro e w6 ⟨rfl,hb6⟩;have Tq:=Zbl eK hb6;clear hb6 r6;go_wp2;go_meet;exact⟨Tdx,Tq.o⟩
        case rest =>
         obtain⟨rfl,PX⟩:=hcut;have B3:=Zbl eI PX;clear PX;cases gw:(eu r.tag&&eu r.sep)with
         |true =>
          rw[gw,bh TcO]at V7;have j9:=aa gw;clear gw;go_wp2;go_ret;exact⟨Tdw,B3.o⟩
         |false =>
          rw[gw,aw rfl]at V7;have j9:=aa gw;clear gw;go_wp2;go_ret;exact⟨Tdw,B3.o⟩
     have hw5:Ek r.Gg 5=false:=by simp[Ek,hp5]
     rw[hw5,aw rfl]at V7;have HW5:=aa hw5;clear hw5;have hq1:decide (r.Gg<1)=false:=cN TcN;have hq5:decide (5<r.Gg)=true:=eA TcN;go_wp2;go_ret;exact⟨Tdw,eI.o⟩
    have hw5:Ek r.Gg 5=false:=by simp[Ek,hp1]
    rw[hw5,aw rfl]at V7;have HW5:=aa hw5;clear hw5;have hq1:decide (r.Gg<1)=true:=eA TcN;go_wp2;go_ret;exact⟨Tdw,eI.o⟩
def tK(g:af)(r:aY)(xs:List (List (Int × Int))):Prop:=∀(i:Nat) (d:az) (x:List (Int × Int)),g.Gb[i]?=some d->xs[i]?=some x->iE x (kI g r d)/\x.length<=300000/\dI x=true
def Dk(g:af)(r:aY)(w:World)(e:Ending)(w':World):Prop:=Below w.heap.size w w' /\
 ((¬kP g r=0/\e=.returned (.tuple #[.slice none 0 0,.int .i64 (kP g r)])) \/
  (kP g r=0/\∃v xs,e=.returned (.tuple #[v,.int .i64 0])/\fH w' w.heap.size v xs/\xs.length=g.Gb.length/\tK g r xs))
theorem tK.snoc{xs:List (List (Int × Int))}(h:tK g r xs)(hd:g.Gb[xs.length]?=some d)(h1:iE x (kI g r d))(h2:x.length<=300000)(h3:dI x=true):tK g r (xs++[x]):=by
 intro i d' y hd' hy;by_cases hi:i<xs.length
 ·rw[Fo hi]at hy;exact h i d' y hd' hy
 have hl:=(List.getElem?_eq_some_iff.1 hy).1;rw[cD,A4]at hl;obtain rfl:i=xs.length:=by omega
 rw[hd]at hd';obtain rfl:=gj hd';obtain rfl:x=y:=by simpa using hy
 exact⟨h1,h2,h3⟩
theorem zo(h:nD g r d=false):iE [] (kI g r d):=⟨yP,fun n=>⟨fun q=>absurd q (jd n),fun q=>by rw[q.1]at h;cases h⟩⟩
theorem tq(h:nD g r d=true)(hn:uM r=false)(hx:iE x (xy g d)):iE x (kI g r d):=hx.congr fun n=>by
 unfold kI;rw[h,hn];simp
theorem yE{y:List (Int × Int)}(h:nD g r d=true)(hn:uM r=true)(hx:iE x (xy g d))(hy:iE y (Mem (mQ (jE g r.near) d.name x))):iE y (kI g r d):=hy.congr fun n=>by
 unfold kI;rw[h,hn,aw rfl];refine⟨fun q=>⟨rfl,x,hx,q⟩,fun⟨_,z,hz,q⟩=>?_⟩;rwa[hx.eq hz fun _=>Iff.rfl]
theorem tQ(h:∀d∈g.Gb,d.tags.length<=8)(l:List ByteArray):(kR g l).length<=l.length*8:=lY _ _ _ fun nm _=>by
 cases hf:bH g.Gb nm with
 |none=>simp[gT]
 |some d=>exact h d (eV hf)
theorem yO(g:af){l:List ByteArray}{x:ByteArray}(h:l[k]?=some x):kR g (l.take (k+1))=kR g (l.take k)++((bH g.Gb x).getD gT).tags:=by
 rw[take_snoc' l k x h];simp[kR]
theorem AA(g:af)(r:aY):(gF g r).length<=g.Gb.length:=by
 unfold gF;split
 ·simp
 exact lq _ _ _
theorem E9.st(h:E9 g):∀v∈g.F9,∀s∈v.Gf,fP s->∀a∈s.Ga,0<=a.start/\a.start<=1000000:=fun v hv s hs ho a ha=>by
 have:=h.ps (aJ v.name s a) (List.mem_flatMap.2 ⟨v,hv,List.mem_flatMap.2 ⟨s,hs,TeL⟩⟩);simp only[aJ]at this;omega
theorem Td6{p:Prop}(h:p:=by have:=DG.o.vl;omega):p:=h
theorem Td7{p:Prop}(h:p:=by rw[vh];exact HD.o):p:=h
theorem jk{ok:Nat->Prop}(g:af)(a:bN)(r:aY)(w:World)(hg:dN ok w g a)(hi:GOk g)(hr:dK r)(hS:AW w) :
  Calls prog 8 #[.agg (Tad g a),.agg (Taj r)] w (Dk g r w):=by
 have HG:=aa hg;clear hg;have HI:=aa hi;clear hi;have MD:=aa hS;clear hS;have SA:=aa hr;clear hr;have hA1:=ae w (.cells (Tad g a) 32);have hA2:=ae (w.alloc (.cells (Tad g a) 32)) (.cells (Taj r) 24);have hN1:=b9 w (.cells (Tad g a) 32);have hN2:=b9 (w.alloc (.cells (Tad g a) 32)) (.cells (Taj r) 24);rw[cW]at hN2;have Fm:Hid (jF ((w.alloc (.cells (Tad g a) 32)).alloc (.cells (Taj r) 24)) w.heap.size (w.heap.size+1) g a r):=aa ⟨(hA2.block _ (aq hN1)).trans hN1,hN2⟩;have cU:=aa (hA1.trans (hA2.mono hA1.size));clear hA1 hA2 hN1 hN2;go_enter func8,ntmps8
 go_upto_region 1 with(fail);generalize hW1:World.alloc (World.alloc w _) _=W1 at *;generalize Rz:w.heap.size+1=Br at *;generalize C1:w.heap.size=Bg at *;have Tm:Hid (Below w.heap.size w W1):=aa Tdy;clear hW1 cU;have gL:=Fm.o.gc;obtain⟨g0,g1,g2,g3,g4,g5,g6,g7,g8⟩:=xr gL;have rL:=Fm.o.rc;obtain⟨r0,r1,r2,r3,r4,r5,r6⟩:=se rL;clear gL rL;have SB:=aa (yQ (ok:=ok) g a r W1 (HG.o.mv (Mv.of Tm.o)) HI.o SA.o (MD.o.below Tm.o));go_wp2_with fail;clear g0 g1 g2 g3 g4 g5 g6 g7 g8 r0 r1 r2 r3 r4 r5 r6;refine SB.o.mono ?_;clear SB;rintro e w2 ⟨rfl,hb2⟩;have cm:=Zbl Tm hb2;have aq6:=aa (Fm.o.below hb2);clear hb2 Tm Fm;by_cases hp:kP g r=0
 ·have qu:(kP g r != 0)=false:=by simpa using hp
  have HP:=aa hp;clear hp;have DG:=aa (Fb HI.o.gi (D6 HP.o).1);have SC:=SA.o.n;have rL:=aq6.o.rc;obtain⟨r0,r1,r2,r3,r4,r5,r6⟩:=se rL;clear rL;have hA:=ae w2 (.cells #[.int .i64 r.Gi,.int .i64 r.Gh,.int .i64 r.Gc,.int .i64 r.Gg,.string r.tag,.string r.near,.string r.sep,.slice none 0 0,.slice none 0 0] 67);have Qv:=aa (b9 w2 (.cells #[.int .i64 r.Gi,.int .i64 r.Gh,.int .i64 r.Gc,.int .i64 r.Gg,.string r.tag,.string r.near,.string r.sep,.slice none 0 0,.slice none 0 0] 67));have cJ:=Zbl cm hA;have C6:=aa (aq6.o.below hA);clear hA aq6;go_upto_region 5 with(fail);clear r0 r1 r2 r3 r4 r5 r6 qu;generalize hW3:World.alloc w2 _=W3 at *;generalize Y0:w2.heap.size=Bj at *;clear hW3;have hwj:w.heap.size<=Bj:=by rw[<- Y0];exact cm.o.size
  clear Y0 cm;have r5:=C6.o.rc 5 _ rfl;have SD:=aq Qv.o;have hne1:Bg≠Bj:=fun e=>by have:=C6.o.g;rw[e,Qv.o]at this;injection this with this;injection this with _ this _;cases this
  have hne2:Br≠Bj:=fun e=>by have:=C6.o.r;rw[e,Qv.o]at this;injection this with this;injection this with _ this _;cases this
  have Ns:Hid (gF g r=if r.near.toList.isEmpty then [] else sP g r.near):=aa rfl;have ac7:(gF g r).length<=8:=cA (AA g r) DG.o.dl;go_upto_if 28 with(fail)
  go_cut[7] (fun v wc=>v=.pointer (some Bj)/\∃(np:Option Addr) (nc:Nat),wc.heap[Bj]?=some (.cells #[.int .i64 r.Gi,.int .i64 r.Gh,.int .i64 r.Gc,.int .i64 r.Gg,.string r.tag,.string r.near,.string r.sep,.slice np (gF g r).length nc,.slice none 0 0] 67 (0,0))/\b6 aF 1 (fun b=>b≠Bj) wc [.slice np (gF g r).length nc] (gF g r)/\cR (fun b=>b=Bj) W3 wc)
  case first =>
   cases hne:r.near.toList.isEmpty with
   |true =>
    rw[hne,aw rfl]at Ns;go_wp2;go_meet;exact⟨rfl,none,0,by rw[Ns.o];exact Qv.o,by rw[Ns.o];exact b6.nil,cR.refl _ _⟩
   |false =>
    rw[hne,bh TcO]at Ns;have gL:=C6.o.gc;obtain⟨g0,g1,g2,g3,g4,g5,g6,g7,g8⟩:=xr gL;clear gL;have Y1:=aa (Cf (ok:=ok) g a r.near W3 ((HG.o.mv (Mv.of cJ.o)).F9) ((HG.o.mv (Mv.of cJ.o)).Gb) DG.o.nd (by unfold maxLen;exact SC));go_wp2_with fail;clear g0 g1 g2 g3 g4 g5 g6 g7 g8;refine Y1.o.mono ?_;clear Y1;rintro e w4 ⟨nv,rfl,how,hb4⟩;have kf:b6 aF 1 (fun b=>b≠Bj) w4 [nv] (sP g r.near):=how.rd fun b e=>by
     have:=(fh how b e).1;show b≠Bj;omega
    have SE:=(hb4.block Bj SD).trans Qv.o;obtain⟨np,nc,rfl,ac8,ac9⟩:=kf.cap;have B2:=aa kf;clear kf how;have eI:=aa hb4;clear hb4;have PI:=aa SE;clear SE;have jf:w4.frozen? (Tac Bj 7)=false:=by simp[World.frozen?,PI.o]
    have j7:=cr PI.o 7 _ rfl;go_wp2;go_meet;have gO:=block_setCell (i:=7) (.slice np (sP g r.near).length nc) PI.o;refine⟨rfl,np,nc,by rw[Ns.o];exact gO,by rw[Ns.o];exact(b6.moves aF.moves).mv ⟨TcY,fun b hb ho=>⟨ho,bw _ _ _ _ ho⟩⟩ B2.o,cR.setCell (F:=fun b=>b=Bj) (p:=⟨Bj,7,none⟩) (cR.of_below eI.o) (.inl rfl) _⟩
  case rest =>
   obtain⟨rfl,np,nc,SF,Y2,Gk⟩:=hcut;have Y3:Hid (Below w.heap.size w wc):=aa (cJ.o.trans (Gk.below cJ.o.size (fun b e=>by omega)));have at0:Hid (jF wc Bg Br g a r):=aa ⟨(Gk.block _ (aq C6.o.g) hne1).trans C6.o.g,(Gk.block _ (aq C6.o.r) hne2).trans C6.o.r⟩;have Uu:=aa SF;clear SF;have WO:=aa Y2;clear Y2;have ad1:=aq Uu.o;clear Gk cJ Qv C6 r5 SD Ns;generalize zr:gF g r=nl at *;have WQ:=aa zr;clear zr;have j7:=cr Uu.o 7 _ rfl;go_upto_region 8 with(fail);clear j7;have hgd:=at0.o.g;have WR:=Y3.o.size;go_loopw[37] (fun i wr=>∃k:Nat,k<=nl.length/\i=.int .i64 k/\cR (fun b=>b=Bj) wc wr/\∃jv,dF wr wc.heap.size jv (kR g (nl.take k))/\wr.heap[Bj]?=some (.cells #[.int .i64 r.Gi,.int .i64 r.Gh,.int .i64 r.Gc,.int .i64 r.Gg,.string r.tag,.string r.near,.string r.sep,.slice np nl.length nc,jv] 67 (0,0))) (fun i _=>nl.length-(intOf i).toNat)
   exact⟨0,cg _,rfl,cR.refl _ _,.slice none 0 0,dF.nil _ _,Uu.o⟩;obtain⟨k,hk,rfl,Gk,jv,hown,SF⟩:=hrel;have sq:=aa Gk;clear Gk;have HOW:=aa hown;clear hown;have at1:=aa SF;clear SF;have HBR:Hid (Below w.heap.size w wr):=aa (Y3.o.trans (sq.o.below WR (fun b e=>by omega)));have PJ:Hid (jF wr Bg Br g a r):=aa ⟨(sq.o.block _ (aq at0.o.g) hne1).trans at0.o.g,(sq.o.block _ (aq at0.o.r) hne2).trans at0.o.r⟩;have ay0:=sq.o.size;by_cases hlt:k<nl.length
   ·obtain⟨x,hx⟩:=aj nl k hlt;obtain⟨b,off,us,rfl,gR,cX,ez,eE,hcv⟩:=WO.o.elem hx;obtain rfl:us=_:=eE;have q0:=(sq.o.cell (p:=⟨b,off+k*1+0,none⟩) cX gR).trans (hcv 0 _ rfl);rw[fp,fg]at q0;have HTS:=aa (yO g hx);have nt:=tQ DG.o.dt (nl.take k);rw[ey]at nt;clear hx hcv ez;have gL:=PJ.o.gc;obtain⟨g0,g1,g2,g3,g4,g5,g6,g7,g8⟩:=xr gL;clear gL;have Y4:=aa (nZ (ok:=fun b=>ok b/\b<w.heap.size) g a x wr ((HG.o.mv (ok':=fun b=>ok b/\b<w.heap.size) ⟨HBR.o.size,fun b hb ho=>⟨⟨ho,hb⟩,HBR.o.block b hb⟩⟩).Gb) (by have:=DG.o.dl;omega) (fun d hd=>by have:=DG.o.dt d hd;omega));go_wp2_with fail;clear g0 g1 g2 g3 g4 g5 g6 g7 g8 q0;refine Y4.o.mono ?_;clear Y4;rintro e w5 ⟨u,rfl,Qw,hb5⟩;have hdt:((bH g.Gb x).getD gT).tags.length<=8:=by
     cases hf:bH g.Gb x with
     |none=>simp[gT]
     |some d=>exact DG.o.dt d (eV hf)
    generalize (bH g.Gb x).isSome=isd at *;generalize hd:(bH g.Gb x).getD gT=d at *;clear hd;obtain⟨tv,rfl,ew⟩:=Qw;obtain⟨tp,tc,rfl,_,_⟩:=ew.cap;have hA:=ae w5 (.cells (Tah d tp tc) 39);have sX:=aa (b9 w5 (.cells (Tah d tp tc) 39));have hb6:=hb5.trans (hA.mono hb5.size);have Hx:Hid (b6 aF 1 (fun _=>True) (w5.alloc (.cells (Tah d tp tc) 39)) [.slice tp d.tags.length tc] d.tags):=aa ((b6.moves aF.moves).mv ⟨hA.size,fun b hb _=>⟨trivial,hA.block b hb⟩⟩ ew);have Tq:=aa hb6;have HOW6:=aa (HOW.o.below hb6);have Nx:=aa ((hb6.block Bj (aq at1.o)).trans at1.o);clear hA hb5 hb6 ew HOW at1;go_upto_region 11 with(fail);generalize hW6:World.alloc w5 _=W6 at *;generalize hBd:w5.heap.size=Bd at *;clear hW6;have d6:=cr sX.o 6 _ rfl;have j8:=cr Nx.o 8 _ rfl;have hsz6:=Tq.o.size;go_wp2_with(at_builtin;refine mW (ok:=fun _=>True) rfl _ _ rfl wc.heap.size jv (kR g (nl.take k)) d.tags rfl ?c1 tp tc rfl ?c2 ?c3 ?c4 ?_)
    all_goals first|(case c1=>exact HOW6.o)|(case c2=>exact Hx.o)|(case c3=>omega)|(case c4=>omega)|skip
    intro v' w7 hown1 hb7 hg7;have SG:=(hg7.block Bj (aq Nx.o) (fun e=>HOW6.o.ne Nx.o TcQ e.symm)).trans Nx.o;have Ny:=aa SG;clear SG;obtain⟨pw,cw,rfl,_,_⟩:=(hown1.rd (ok:=fun _=>True) (fun _ _=>trivial)).cap;have HOW7:=aa hown1;clear hown1;have Qx:Hid (cR (fun b=>b=Bj) wc w7):=aa (sq.o.trans (cR.of_below (F:=fun _=>False) Tq.o) (fun _ f=>f.elim) |>.trans (G:=fun b=>wc.heap.size<=b) ⟨hb7.os,hb7.tape,hb7.output,hb7.size,fun b hb hn=>hb7.block b TcN⟩ (fun b e=>.inr e));have jf:w7.frozen? (Tac Bj 8)=false:=by simp[World.frozen?,Ny.o]
    have j8':w7.cell? (Tac Bj 8)=some jv:=by simp[World.cell?,Ny.o]
    clear hb7 hg7 d6 j8;go_wp2;go_roundw
    case rel =>
     refine⟨k+1,TcN,TcR,Qx.o.setCell (.inl rfl) _,_,?_,block_setCell (i:=8) _ Ny.o⟩;rw[HTS.o];have h7:=HOW7.o.blk (w':=w7.setCell (Tac Bj 8) (.slice pw ((kR g (nl.take k)).length+d.tags.length) cw)) fun b e=>bw w7 ⟨Bj,8,none⟩ _ b (fun q=>HOW7.o.ne Ny.o TcQ (e.trans (fj some q)));rw[cD]at h7;exact h7
    simp[intOf];omega
   obtain rfl:k=nl.length:=by omega
   rw[cI]at HOW;have nt:=tQ DG.o.dt nl;obtain⟨jp,jc,rfl,_,_⟩:=(HOW.o.rd (ok:=fun _=>True) (fun _ _=>trivial)).cap;have Y5:=aa (HOW.o.rd (ok:=fun _=>True) (fun _ _=>trivial));have SH:Hid (b6 aF 1 (fun _=>True) wr [.slice np nl.length nc] nl):=aa ((b6.moves aF.moves).mv ⟨sq.o.size,fun b hb ho=>⟨trivial,sq.o.block b hb ho⟩⟩ WO.o);generalize vt:kR g nl=jl at *;have HJL:=aa vt;clear vt;clear HOW sq WO Uu at0;have Y6:Hid (qd (wr.alloc (.cells #[.func (.func 25) #[] #[],.func (.func 26) #[] #[],.func (.func 27) #[] #[],.func (.func 28) #[] #[]] 71)) wr.heap.size):=aa (b9 wr _);have hA:=ae wr (.cells #[.func (.func 25) #[] #[],.func (.func 26) #[] #[],.func (.func 27) #[] #[],.func (.func 28) #[] #[]] 71);have Ix:=Zbl HBR hA;have L1:=aa (PJ.o.below hA);have SI:=aa ((hA.block Bj (aq at1.o)).trans at1.o);have WS:=aa (gI aF.moves Y5.o hA);have WT:=aa (gI aF.moves SH.o hA);clear hA HBR PJ at1 Y5 SH;go_upto_region 15 with(fail);generalize hW8:World.alloc wr _=W8 at *;generalize Uc:wr.heap.size=Bc at *;clear hW8;have g6:=L1.o.gc 6 _ rfl;go_upto_region 16 with(fail);clear g6;have Wt:Hid (b6 aO 7 (fun b=>b<w.heap.size) W8 [.slice a.dp g.Gb.length a.dc] g.Gb):=aa ((HG.o.mv (ok':=fun b=>b<w.heap.size) ⟨Ix.o.size,fun b hb _=>⟨hb,Ix.o.block b hb⟩⟩).Gb);have rB:Hid (dN (fun b=>b<w.heap.size) W8 g a):=aa (HG.o.mv (ok':=fun b=>b<w.heap.size) ⟨Ix.o.size,fun b hb _=>⟨hb,Ix.o.block b hb⟩⟩);have CD:=DG.o.dl;have hsz8:=Ix.o.size;generalize Wu:a.dp=dpx at *;generalize Wv:a.dc=dcx at *;clear Wu Wv;go_loopw[13,58] (fun ov i wr=>∃m:Nat,m<=g.Gb.length/\i=.int .i64 m/\Below W8.heap.size W8 wr/\∃xs,fH wr W8.heap.size ov xs/\xs.length=m/\tK g r xs) (fun _ i _=>g.Gb.length-(intOf i).toNat)
   exact⟨0,cg _,rfl,bj _ _,[],fH.nil _ _,rfl,fun i d x _ h=>by cases h⟩;obtain⟨m,hm,rfl,hB,xs,hown,vh,Uv⟩:=hrel;have HB:=aa hB;clear hB;have HOW:=aa hown;clear hown;have NZ:=aa Uv;clear Uv;have ay0:=HB.o.size;by_cases hlt:m<g.Gb.length
   ·obtain⟨d,hd⟩:=aj g.Gb m hlt;obtain⟨b,off,us,hsp,gR,cX,ez,eE,hcv⟩:=Wt.o.elem hd;obtain⟨tv,rfl,ew⟩:=eE;obtain⟨tp,tc,rfl,_,_⟩:=ew.cap;have cT:wr.heap[b]?=W8.heap[b]?:=HB.o.block b cX;have hdt:=DG.o.dt d (ct hd);have kj:=aa (DG.o.de d (ct hd));have WU:=aa (DG.o.df m d hd);have HD:=aa hd;clear hd;subst hsp;obtain⟨q0,q1,q2,q3,q4,q5,q6⟩:=OD cT hcv;clear hcv ez cT;have hA:=ae wr (.cells (Tah d tp tc) 39);have sX:=aa (b9 wr (.cells (Tah d tp tc) 39));have hb9:=HB.o.trans (hA.mono HB.o.size);have J1:=aa hb9;have HOW9:=aa (HOW.o.below hA);have Hx:Hid (b6 aF 1 (fun _=>True) (wr.alloc (.cells (Tah d tp tc) 39)) [.slice tp d.tags.length tc] d.tags):=aa ((b6.moves aF.moves).mv ⟨hb9.size,fun b hb _=>⟨trivial,hb9.block b hb⟩⟩ ew);have Y7:Hid (kF (wr.alloc (.cells (Tah d tp tc) 39)) Bj wr.heap.size r np jp nc jc nl jl d tp tc):=aa ⟨⟨(hb9.block Bj (aq SI.o)).trans SI.o,sX.o⟩,gI aF.moves WT.o hb9,gI aF.moves WS.o hb9,Hx.o⟩;have XH:=aa (oD Y7.o ((hb9.block Bc (aq Y6.o)).trans Y6.o) TcN TcN TcN);have Kp:Hid (nD g r d=iD nl jl r d):=aa (by unfold nD;rw[WQ.o,HJL.o]);clear hA hb9 ew Hx Y7 HOW HB;go_upto_region 18 with(fail);clear q0 q1 q2 q3 q4 q5 q6;generalize hW9:World.alloc wr _=W9 at *;generalize hBd:wr.heap.size=Bd at *;clear hW9;go_wp2_with fail;refine XH.o.mono ?_;clear XH;rintro e w10 ⟨rfl,hb10⟩;have Ax:=Zbl J1 hb10;have HOW10:=aa (HOW9.o.below hb10);have ap6:=Zbk hb10 sX;have hsz10:=Ax.o.size;clear hb10 J1 HOW9 sX;cases Uw:iD nl jl r d with
    |false =>
     have Nv:=aa (zo (Kp.o.trans Uw));clear Uw;go_wp2_with(at_builtin;refine iA rfl _ _ rfl W8.heap.size _ xs (.slice none 0 0) [] rfl ?c1 ?c2 w10.heap.size 1 rfl ?c3 ?c4 ?c5 ?_)
     all_goals first|(case c1=>exact HOW10.o.below (ae _ _))|(case c2=>exact bM.nil _ _)|(case c3=>exact aD rfl rfl)|(case c4=>omega)|(case c5=>simp;omega)|skip
     intro v' w11 hown1 hb11 _;have C7:=aa ((Ax.o.alloc hsz10 _).trans hb11);have HOW11:=aa hown1;clear hown1 hb11;go_wp2;go_roundw;exact⟨m+1,TcN,TcR,C7.o,_,HOW11.o,by simp[vh],NZ.o.snoc Td7 Nv.o TcO rfl⟩;simp[intOf];omega
    |true =>
     have Qo:=aa (Kp.o.trans Uw);clear Uw;have L3:Hid (jF w10 Bg Br g a r):=aa ⟨(Ax.o.block _ (aq L1.o.g)).trans L1.o.g,(Ax.o.block _ (aq L1.o.r)).trans L1.o.r⟩;have gL:=L3.o.gc;obtain⟨g0,g1,g2,g3,g4,g5,g6,g7,g8⟩:=xr gL;clear gL;have d0:=cr ap6.o 0 _ rfl;have hgr10:dN (fun b=>b<w.heap.size) w10 g a:=rB.o.mv ⟨Ax.o.size,fun b hb ho=>⟨ho,Ax.o.block b hb⟩⟩;have SJ:=aa (Di (ok:=fun b=>b<w.heap.size) g.name g.id g.seq g.Gd g.next a.tp a.dp a.vp a.hp g.tags.length a.tc a.dc a.vc g.history.length a.hc g.Gb g.F9 d.name w10 hgr10.Gb TcN (fun D hD=>by have:=DG.o.dt D hD;omega) (fun D hD=>by have:=DG.o.de D hD;omega) hgr10.F9 Td6 DG.o.tm (fun p hp=>by have:=DG.o.ps p hp;omega) (by have:=DG.o.pn;omega));clear hgr10;go_wp2_with fail;clear g0 g1 g2 g3 g4 g5 g6 g7 g8 d0;refine SJ.o.mono ?_;clear SJ;intro e w11 hf;unfold zR at hf;rw[WU.o]at hf;obtain⟨fv,x,rfl,SK,hfn,SM,ML,hb11⟩:=hf;have CM:=aa (SK.mono (B':=W8.heap.size) hsz10);clear SK;have MH:Hid (iE x (xy g d)):=aa hfn;clear hfn;have Ux:=aa SM;clear SM;have hpn:=DG.o.pn;have PK:x.length<=30000:=by omega
     clear ML hpn;have C7:=aa (Ax.o.trans (hb11.mono hsz10));have HOW11:=aa (HOW10.o.below hb11);have Om:=aa (L3.o.below hb11);have SN:=Zbk hb11 ap6;have hsz11:=C7.o.size;clear hb11 Ax HOW10 L3 ap6;go_upto_region 23 with(fail);have rL:=Om.o.rc;obtain⟨r0,r1,r2,r3,r4,r5,r6⟩:=se rL;clear rL;have N8:Hid (uM r=(r.Gg==1&&!r.near.toList.isEmpty)):=aa rfl;have key:(r.Gg==1)=false\/((r.Gg==1)=true/\r.near.toList.isEmpty=true)\/((r.Gg==1)=true/\r.near.toList.isEmpty=false):=by
      cases (r.Gg==1)<;>cases r.near.toList.isEmpty<;>simp
     rcases key with h1|⟨h1,h2⟩|⟨h1,h2⟩
     ·rw[h1]at N8;have Oe:=aa (tq Qo.o N8.o MH.o);obtain⟨pf,nf,cf,rfl⟩:=CM.o.slice;go_wp2_with(at_builtin;refine iA rfl _ _ rfl W8.heap.size _ xs (.slice pf nf cf) x rfl ?c1 ?c2 w11.heap.size 1 rfl ?c3 ?c4 ?c5 ?_)
      all_goals first|(case c1=>exact HOW11.o.below (ae _ _))|(case c2=>exact CM.o.below (ae _ _))|(case c3=>exact aD rfl rfl)|(case c4=>omega)|(case c5=>simp;omega)|skip
      intro v' w12 hown1 hb12 _;have at5:=aa ((C7.o.alloc hsz11 _).trans hb12);have HOW12:=aa hown1;clear hown1 hb12;go_wp2;go_roundw;exact⟨m+1,TcN,TcR,at5.o,_,HOW12.o,by simp[vh],NZ.o.snoc Td7 Oe.o TcN Ux.o⟩;simp[intOf];omega
     ·rw[h1,h2]at N8;have Oe:=aa (tq Qo.o N8.o MH.o);obtain⟨pf,nf,cf,rfl⟩:=CM.o.slice;go_wp2_with(at_builtin;refine iA rfl _ _ rfl W8.heap.size _ xs (.slice pf nf cf) x rfl ?e1 ?e2 w11.heap.size 1 rfl ?e3 ?e4 ?e5 ?_)
      all_goals first|(case e1=>exact HOW11.o.below (ae _ _))|(case e2=>exact CM.o.below (ae _ _))|(case e3=>exact aD rfl rfl)|(case e4=>omega)|(case e5=>simp;omega)|skip
      intro v' w12 hown1 hb12 _;have at5:=aa ((C7.o.alloc hsz11 _).trans hb12);have HOW12:=aa hown1;clear hown1 hb12;go_wp2;go_roundw;exact⟨m+1,TcN,TcR,at5.o,_,HOW12.o,by simp[vh],NZ.o.snoc Td7 Oe.o TcN Ux.o⟩;simp[intOf];omega
     rw[h1,h2]at N8;have gL:=Om.o.gc;obtain⟨g0,g1,g2,g3,g4,g5,g6,g7,g8⟩:=xr gL;clear gL;have d0:=cr SN.o 0 _ rfl;have qu:∀p∈x,0<=p.1/\1<=p.2/\p.1+p.2<=1073741824:=fun p hp=>by
      have c:=MH.o.1.1 p hp;have c1:=((MH.o.2 p.1).1 ⟨p,hp,TcN,TcN⟩).1;have c2:=((MH.o.2 (p.1+p.2-1)).1 ⟨p,hp,TcN,TcN⟩).1;have:=kj.o;omega
     have PH:Hid ((jE g r.near).length<=10):=aa (by
      refine cA (Bu (m:=6) ?_) TcN;cases hf:aM g.F9 r.near with
      |none=>intro s hs;simp[eY]at hs
      |some v=>exact fun s hs=>DG.o.a6 v (eV hf) s hs)
     have TM:=aa (yI (ok:=fun b=>b<w.heap.size) g a r.near d.name x fv w11 ((rB.o.mv (ok':=fun b=>b<w.heap.size) ⟨C7.o.size,fun b hb ho=>⟨ho,C7.o.block b hb⟩⟩).F9) DG.o.nd.us.sz DG.o.tm DG.o.st CM.o.rd qu PK PH.o);clear qu;go_wp2_with fail;clear g0 g1 g2 g3 g4 g5 g6 g7 g8 d0 r0 r1 r2 r3 r4 r5 r6;refine TM.o.mono ?_;clear TM;rintro e w12 ⟨yv,y,rfl,SP,WV,Nz,hb12⟩;have Y8:=aa (SP.mono (B':=W8.heap.size) hsz11);clear SP;have Oe:=aa (yE Qo.o N8.o MH.o WV);have HYV:Hid (dI y=true):=aa (jC WV (xS fun p hp=>by
      have c:=MH.o.1.1 p hp;have c1:=((MH.o.2 p.1).1 ⟨p,hp,TcN,TcN⟩).1;have c2:=((MH.o.2 (p.1+p.2-1)).1 ⟨p,hp,TcN,TcN⟩).1;have:=kj.o;omega))
     have at5:=aa (C7.o.trans (hb12.mono hsz11));have HOW12:=aa (HOW11.o.below hb12);have hsz12:=at5.o.size;clear hb12 WV;obtain⟨pf,nf,cf,rfl⟩:=Y8.o.slice;go_wp2_with(at_builtin;refine iA rfl _ _ rfl W8.heap.size _ xs (.slice pf nf cf) y rfl ?f1 ?f2 w12.heap.size 1 rfl ?f3 ?f4 ?f5 ?_)
     all_goals first|(case f1=>exact HOW12.o.below (ae _ _))|(case f2=>exact Y8.o.below (ae _ _))|(case f3=>exact aD rfl rfl)|(case f4=>omega)|(case f5=>simp;omega)|skip
     intro v' w13 hown1 hb13 _;have WX:=aa ((at5.o.alloc hsz12 _).trans hb13);have HOW13:=aa hown1;clear hown1 hb13;go_wp2;go_roundw;exact⟨m+1,TcN,TcR,WX.o,_,HOW13.o,by simp[vh],NZ.o.snoc Td7 Oe.o TcN HYV.o⟩;simp[intOf];omega
   obtain rfl:m=g.Gb.length:=by omega
   have B3:=aa (Ix.o.trans (HB.o.mono hsz8));go_wp2;go_ret2;exact⟨B3.o,.inr ⟨HP.o,_,xs,rfl,HOW.o.mono hsz8,vh,NZ.o⟩⟩
 have qu:(kP g r != 0)=true:=by simpa using hp
 have HP:=aa hp;clear hp;go_wp2;go_ret2;exact⟨cm.o,.inl ⟨HP.o,rfl⟩⟩
theorem lZ{w:World}{o:Obj}(h:k=w.heap.size):(w.alloc o).heap[k]?=some o:=by
 subst h;exact b9 w o
end Go.Proofs.YtillcmhjhajimaaGreatDoor
