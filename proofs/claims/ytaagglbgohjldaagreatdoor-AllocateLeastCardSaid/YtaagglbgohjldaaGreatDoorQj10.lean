/- Lemmas. -/
import Derived.Test.YtaagglbgohjldaaGreatDoorQj09
set_option maxRecDepth 100000
set_option maxHeartbeats 32000000
set_option linter.all false
open List renaming getElem?_eq_some_iff→AT,mem_flatMap→BY
open Go.World renaming alloc→AI,frozen?→BT,cell?→AN,setCell→AF
open Go.Value renaming int→Bm,string→Cd
open Go.Region renaming wanted→By,ready→BE
namespace Go.Proofs.YtaagglbgohjldaaGreatDoor
open Go.Proofs.Tryz
open Go.RowKit Go.Maps Go.Shelf
variable {g:af}{r:aY}{d:az}{x:List (Int × Int)}
def tK(g:af)(r:aY)(xs:List (List (Int × Int))):Prop:=∀(i:Nat) (d:az) (x:List (Int × Int)),g.Gb[i]?=some d->xs[i]?=some x->iE x (kI g r d)/\x.length<=300000/\dI x=true
def Dk(g:af)(r:aY)(w:World)(e:Ending)(w':World):Prop:=Below w.1.size w w' /\
 ((¬kP g r=0/\e=.returned (.tuple #[.slice none 0 0,.int .i64 (kP g r)])) \/
  (kP g r=0/\∃v xs,e=.returned (.tuple #[v,.int .i64 0])/\fH w' w.1.size v xs/\xs.length=g.Gb.length/\tK g r xs))
def tK.snoc{xs:List (List (Int × Int))}(h:tK g r xs)(hd:g.Gb[xs.length]?=some d)(h1:iE x (kI g r d))(h2:x.length<=300000)(h3:dI x=true):tK g r (xs++[x]):=by
 intro i d' y hd' hy;by_cases hi:i<xs.length
 ·rw[Fo hi]at hy;exact h i d' y hd' hy
 have hl:=(AT.1 hy).1;rw[cD,A4]at hl;obtain rfl:i=xs.length:=by omega
 rw[hd]at hd';obtain rfl:=gj hd';obtain rfl:x=y:=by simpa using hy
 exact⟨h1,h2,h3⟩
def zo(h:nD g r d=false):iE [] (kI g r d):=⟨yP,fun n=>⟨fun q=>absurd q (jd n),fun q=>by rw[q.1]at h;cases h⟩⟩
def tq(h:nD g r d=true)(hn:uM r=false)(hx:iE x (xy g d)):iE x (kI g r d):=hx.congr fun n=>by
 unfold kI;rw[h,hn];simp
def yE{y:List (Int × Int)}(h:nD g r d=true)(hn:uM r=true)(hx:iE x (xy g d))(hy:iE y (Mem (mQ (jE g r.near) d.name x))):iE y (kI g r d):=hy.congr fun n=>by
 unfold kI;rw[h,hn,aw rfl];refine⟨fun q=>⟨rfl,x,hx,q⟩,fun⟨_,z,hz,q⟩=>?_⟩;rwa[hx.eq hz fun _=>Iff.rfl]
def tQ(h:∀d∈g.Gb,d.tags.length<=8)(l:List ByteArray):(kR g l).length<=l.length*8:=lY _ _ _ fun nm _=>by
 cases hf:bH g.Gb nm with
 |none=>simp[gT]
 |some d=>exact h d (eV hf)
def yO(g:af){l:List ByteArray}{k:Nat}{x:ByteArray}(h:l[k]?=some x):kR g (l.take (k+1))=kR g (l.take k)++((bH g.Gb x).getD gT).tags:=by
 rw[take_snoc' l k x h];simp[kR]
def AA(g:af)(r:aY):(gF g r).length<=g.Gb.length:=by
 unfold gF;split
 ·simp
 exact lq _ _ _
def E9.st(h:E9 g):∀v∈g.F9,∀s∈v.Gf,fP s->∀a∈s.Ga,0<=a.start/\a.start<=1000000:=fun v hv s hs ho a ha=>by
 have:=h.ps (aJ v.name s a) (BY.2 ⟨v,hv,BY.2 ⟨s,hs,Te0⟩⟩);simp only[aJ]at this;omega
def TeN{p:Prop}(h:p:=by have:=DG.o.vl;omega):p:=h
def Tei{p:Prop}(h:p:=by rw[vh];exact HD.o):p:=h
def jk{ok:Nat->Prop}(g:af)(a:bN)(r:aY)(w:World)(hg:dN ok w g a)(hi:GOk g)(hr:dK r)(hS:AW w) :
  Calls prog 9 #[.agg (Tad g a),.agg (Tal r)] w (Dk g r w):=by
 replace hg:=aa hg;replace hi:=aa hi;replace hS:=aa hS;replace hr:=aa hr;have hA1:=ae w (.cells (Tad g a) 31);have hA2:=ae (w.alloc (.cells (Tad g a) 31)) (.cells (Tal r) 34);have RW:=b9 w (.cells (Tad g a) 31);have kc:=b9 (w.alloc (.cells (Tad g a) 31)) (.cells (Tal r) 34);rw[cW]at kc;have Fm:Hid (jF ((w.alloc (.cells (Tad g a) 31)).alloc (.cells (Tal r) 34)) w.1.size (w.1.size+1) g a r):=aa ⟨(hA2.block _ (aq RW)).trans RW,kc⟩;have cU:=aa (hA1.trans (hA2.mono hA1.size));clear hA1 hA2 RW kc;go_enter func9,ntmps9
 go_upto_region 1 with(fail);generalize R0:AI (AI w _) _=W1 at *;generalize Rz:w.1.size+1=Br at *;generalize TJ:w.1.size=Bg at *;have Tm:Hid (Below w.1.size w W1):=aa Tek;clear R0 cU;have gL:=Fm.o.gc;obtain⟨g0,g1,g2,g3,g4,g5,g6,g7,g8⟩:=xr gL;have rL:=Fm.o.rc;obtain⟨r0,r1,r2,r3,r4,r5,r6⟩:=se rL;clear gL rL;have SB:=aa (yQ (ok:=ok) g a r W1 (hg.o.mv (Mv.of Tm.o)) hi.o hr.o (hS.o.below Tm.o));go_wp2_with fail;clear g0 g1 g2 g3 g4 g5 g6 g7 g8 r0 r1 r2 r3 r4 r5 r6;refine SB.o.mono ?_;clear SB;rintro e w2 ⟨rfl,hb2⟩;have cm:=Zbl Tm hb2;have aL:=aa (Fm.o.below hb2);clear hb2 Tm Fm;by_cases hp:kP g r=0
 ·have qu:(kP g r != 0)=false:=by simpa using hp
  have HP:=aa hp;clear hp;have DG:=aa (Fb hi.o.gi (D6 HP.o).1);have SC:=hr.o.n;have rL:=aL.o.rc;obtain⟨r0,r1,r2,r3,r4,r5,r6⟩:=se rL;clear rL;have hA:=ae w2 (.cells #[.int .i64 r.Gi,.int .i64 r.Gh,.int .i64 r.Gc,.int .i64 r.Gg,r.tag,r.near,r.sep,.slice none 0 0,.slice none 0 0] 77);have Qv:=aa (b9 w2 (.cells #[.int .i64 r.Gi,.int .i64 r.Gh,.int .i64 r.Gc,.int .i64 r.Gg,r.tag,r.near,r.sep,.slice none 0 0,.slice none 0 0] 77));have cJ:=Zbl cm hA;have C6:=aa (aL.o.below hA);clear hA aL;go_upto_region 5 with(fail);clear r0 r1 r2 r3 r4 r5 r6 qu;generalize aU:AI w2 _=W3 at *;generalize Y0:w2.1.size=Bj at *;clear aU;have bf:w.1.size<=Bj:=by rw[<- Y0];exact cm.o.size
  clear Y0 cm;have r5:=C6.o.rc 5 _ rfl;have SD:=aq Qv.o;have av:Bg≠Bj:=fun e=>by have:=C6.o.g;rw[e,Qv.o]at this;injection this with this;injection this with _ this _;cases this
  have ay:Br≠Bj:=fun e=>by have:=C6.o.r;rw[e,Qv.o]at this;injection this with this;injection this with _ this _;cases this
  have am:Hid (gF g r=if r.near.toList.isEmpty then [] else sP g r.near):=aa rfl;have bg:(gF g r).length<=8:=cA (AA g r) DG.o.dl;go_upto_if 28 with(fail)
  go_cut[7] (fun v wc=>v=.pointer (some Bj)/\∃(np:Option Addr) (nc:Nat),wc.1[Bj]?=some (.cells #[.int .i64 r.Gi,.int .i64 r.Gh,.int .i64 r.Gc,.int .i64 r.Gg,r.tag,r.near,r.sep,.slice np (gF g r).length nc,.slice none 0 0] 77 (0,0))/\ck aF 1 (fun b=>b≠Bj) wc [.slice np (gF g r).length nc] (gF g r)/\cR (fun b=>b=Bj) W3 wc)
  case first =>
   cases hne:r.near.toList.isEmpty with
   |true =>
    rw[hne,aw rfl]at am;go_wp2;go_meet;exact⟨rfl,none,0,by rw[am.o];exact Qv.o,by rw[am.o];exact ck.nil,cR.refl _ _⟩
   |false =>
    rw[hne,bh Tc2]at am;have gL:=C6.o.gc;obtain⟨g0,g1,g2,g3,g4,g5,g6,g7,g8⟩:=xr gL;clear gL;have Y1:=aa (Cf (ok:=ok) g a r.near W3 ((hg.o.mv (Mv.of cJ.o)).F9) ((hg.o.mv (Mv.of cJ.o)).Gb) DG.o.nd (by unfold maxLen;exact SC));go_wp2_with fail;clear g0 g1 g2 g3 g4 g5 g6 g7 g8;refine Y1.o.mono ?_;clear Y1;rintro e w4 ⟨nv,rfl,aN,aH⟩;have kf:ck aF 1 (fun b=>b≠Bj) w4 [nv] (sP g r.near):=aN.rd fun b e=>by
     have:=(fh aN b e).1;show b≠Bj;omega
    have SE:=(aH.block Bj SD).trans Qv.o;obtain⟨np,nc,rfl,bi,bk⟩:=kf.cap;replace kf:=aa kf;clear aN;replace aH:=aa aH;replace SE:=aa SE;have jf:w4.frozen? (Tac Bj 7)=false:=by simp[BT,SE.o]
    have j7:=cr SE.o 7 _ rfl;go_wp2;go_meet;have gO:=block_setCell (i:=7) (.slice np (sP g r.near).length nc) SE.o;refine⟨rfl,np,nc,by rw[am.o];exact gO,by rw[am.o];exact(ck.moves aF.moves).mv ⟨Tdd,fun b hb ho=>⟨ho,bw _ _ _ _ ho⟩⟩ kf.o,cR.setCell (F:=fun b=>b=Bj) (p:=⟨Bj,7,none⟩) (cR.of_below aH.o) (.inl rfl) _⟩
  case rest =>
   obtain⟨rfl,np,nc,SF,Y2,Gk⟩:=hcut;have Y3:Hid (Below w.1.size w wc):=aa (cJ.o.trans (Gk.below cJ.o.size (fun b e=>by omega)));have ao:Hid (jF wc Bg Br g a r):=aa ⟨(Gk.block _ (aq C6.o.g) av).trans C6.o.g,(Gk.block _ (aq C6.o.r) ay).trans C6.o.r⟩;have Uu:=aa SF;clear SF;replace Y2:=aa Y2;have bl:=aq Uu.o;clear Gk cJ Qv C6 r5 SD am;generalize zr:gF g r=nl at *;replace zr:=aa zr;have j7:=cr Uu.o 7 _ rfl;go_upto_region 8 with(fail);clear j7;have bm:=ao.o.g;have WR:=Y3.o.size;go_loopw[37] (fun i wr=>∃k:Nat,k<=nl.length/\i=.int .i64 k/\cR (fun b=>b=Bj) wc wr/\∃jv,dF wr wc.1.size jv (kR g (nl.take k))/\wr.1[Bj]?=some (.cells #[.int .i64 r.Gi,.int .i64 r.Gh,.int .i64 r.Gc,.int .i64 r.Gg,r.tag,r.near,r.sep,.slice np nl.length nc,jv] 77 (0,0))) (fun i _=>nl.length-(intOf i).toNat)
   exact⟨0,cg _,rfl,cR.refl _ _,.slice none 0 0,dF.nil _ _,Uu.o⟩;obtain⟨k,hk,rfl,Gk,jv,a9,SF⟩:=hrel;replace Gk:=aa Gk;have HOW:=aa a9;clear a9;replace SF:=aa SF;have aI:Hid (Below w.1.size w wr):=aa (Y3.o.trans (Gk.o.below WR (fun b e=>by omega)));have PJ:Hid (jF wr Bg Br g a r):=aa ⟨(Gk.o.block _ (aq ao.o.g) av).trans ao.o.g,(Gk.o.block _ (aq ao.o.r) ay).trans ao.o.r⟩;have aV:=Gk.o.size;by_cases hlt:k<nl.length
   ·obtain⟨x,hx⟩:=aj nl k hlt;obtain⟨b,off,us,rfl,gR,cX,ez,eE,ON⟩:=Y2.o.elem hx;obtain rfl:us=_:=eE;have q0:=(Gk.o.cell (p:=⟨b,off+k*1+0,none⟩) cX gR).trans (ON 0 _ rfl);rw[fp,fg]at q0;have HTS:=aa (yO g hx);have nt:=tQ DG.o.dt (nl.take k);rw[ey]at nt;clear hx ON ez;have gL:=PJ.o.gc;obtain⟨g0,g1,g2,g3,g4,g5,g6,g7,g8⟩:=xr gL;clear gL;have Y4:=aa (nZ (ok:=fun b=>ok b/\b<w.1.size) g a x wr ((hg.o.mv (ok':=fun b=>ok b/\b<w.1.size) ⟨aI.o.size,fun b hb ho=>⟨⟨ho,hb⟩,aI.o.block b hb⟩⟩).Gb) (by have:=DG.o.dl;omega) (fun d hd=>by have:=DG.o.dt d hd;omega));go_wp2_with fail;clear g0 g1 g2 g3 g4 g5 g6 g7 g8 q0;refine Y4.o.mono ?_;clear Y4;rintro e w5 ⟨u,rfl,Qw,hb5⟩;have aW:((bH g.Gb x).getD gT).tags.length<=8:=by
     cases hf:bH g.Gb x with
     |none=>simp[gT]
     |some d=>exact DG.o.dt d (eV hf)
    generalize (bH g.Gb x).isSome=isd at *;generalize hd:(bH g.Gb x).getD gT=d at *;clear hd;obtain⟨tv,rfl,ew⟩:=Qw;obtain⟨tp,tc,rfl,_,_⟩:=ew.cap;have hA:=ae w5 (.cells (Tai d tp tc) 51);have sX:=aa (b9 w5 (.cells (Tai d tp tc) 51));have mw:=hb5.trans (hA.mono hb5.size);have Hx:Hid (ck aF 1 (fun _=>True) (w5.alloc (.cells (Tai d tp tc) 51)) [.slice tp d.tags.length tc] d.tags):=aa ((ck.moves aF.moves).mv ⟨hA.size,fun b hb _=>⟨trivial,hA.block b hb⟩⟩ ew);have Tq:=aa mw;have az:=aa (HOW.o.below mw);have Nx:=aa ((mw.block Bj (aq SF.o)).trans SF.o);clear hA hb5 mw ew HOW SF;go_upto_region 11 with(fail);generalize aX:AI w5 _=W6 at *;generalize aZ:w5.1.size=Bd at *;clear aX;have d6:=cr sX.o 6 _ rfl;have j8:=cr Nx.o 8 _ rfl;have b8:=Tq.o.size;go_wp2_with(at_builtin;refine mW (ok:=fun _=>True) rfl _ _ rfl wc.1.size jv (kR g (nl.take k)) d.tags rfl ?c1 tp tc rfl ?c2 ?c3 ?c4 ?_)
    all_goals first|(case c1=>exact az.o)|(case c2=>exact Hx.o)|(case c3=>omega)|(case c4=>omega)|skip
    intro v' w7 OR tb aR;have SG:=(aR.block Bj (aq Nx.o) (fun e=>az.o.ne Nx.o Tc4 e.symm)).trans Nx.o;replace SG:=aa SG;obtain⟨pw,cw,rfl,_,_⟩:=(OR.rd (ok:=fun _=>True) (fun _ _=>trivial)).cap;replace OR:=aa OR;have Qx:Hid (cR (fun b=>b=Bj) wc w7):=aa (Gk.o.trans (cR.of_below (F:=fun _=>False) Tq.o) (fun _ f=>f.elim) |>.trans (G:=fun b=>wc.1.size<=b) ⟨tb.os,tb.tape,tb.output,tb.size,fun b hb hn=>tb.block b Tc1⟩ (fun b e=>.inr e));have jf:w7.frozen? (Tac Bj 8)=false:=by simp[BT,SG.o]
    have bp:w7.cell? (Tac Bj 8)=some jv:=by simp[AN,SG.o]
    clear tb aR d6 j8;go_wp2;go_roundw
    case rel =>
     refine⟨k+1,Tc1,Tc5,Qx.o.setCell (.inl rfl) _,_,?_,block_setCell (i:=8) _ SG.o⟩;rw[HTS.o];have h7:=OR.o.blk (w':=w7.setCell (Tac Bj 8) (.slice pw ((kR g (nl.take k)).length+d.tags.length) cw)) fun b e=>bw w7 ⟨Bj,8,none⟩ _ b (fun q=>OR.o.ne SG.o Tc4 (e.trans (fj some q)));rw[cD]at h7;exact h7
    simp[intOf];omega
   obtain rfl:k=nl.length:=by omega
   rw[cI]at HOW;have nt:=tQ DG.o.dt nl;obtain⟨jp,jc,rfl,_,_⟩:=(HOW.o.rd (ok:=fun _=>True) (fun _ _=>trivial)).cap;have Y5:=aa (HOW.o.rd (ok:=fun _=>True) (fun _ _=>trivial));have SH:Hid (ck aF 1 (fun _=>True) wr [.slice np nl.length nc] nl):=aa ((ck.moves aF.moves).mv ⟨Gk.o.size,fun b hb ho=>⟨trivial,Gk.o.block b hb ho⟩⟩ Y2.o);generalize vt:kR g nl=jl at *;replace vt:=aa vt;clear HOW Gk Y2 Uu ao;have Y6:Hid (qd (wr.alloc (.cells #[.func (.func 28) #[] #[],.func (.func 29) #[] #[],.func (.func 30) #[] #[],.func (.func 31) #[] #[]] 81)) wr.1.size):=aa (b9 wr _);have hA:=ae wr (.cells #[.func (.func 28) #[] #[],.func (.func 29) #[] #[],.func (.func 30) #[] #[],.func (.func 31) #[] #[]] 81);have Ix:=Zbl aI hA;have L1:=aa (PJ.o.below hA);have SI:=aa ((hA.block Bj (aq SF.o)).trans SF.o);have WS:=aa (gI aF.moves Y5.o hA);have WT:=aa (gI aF.moves SH.o hA);clear hA aI PJ SF Y5 SH;go_upto_region 15 with(fail);generalize ba:AI wr _=W8 at *;generalize Uc:wr.1.size=Bc at *;clear ba;have g6:=L1.o.gc 6 _ rfl;go_upto_region 16 with(fail);clear g6;have Wt:Hid (ck aO 7 (fun b=>b<w.1.size) W8 [.slice a.dp g.Gb.length a.dc] g.Gb):=aa ((hg.o.mv (ok':=fun b=>b<w.1.size) ⟨Ix.o.size,fun b hb _=>⟨hb,Ix.o.block b hb⟩⟩).Gb);have ux:Hid (dN (fun b=>b<w.1.size) W8 g a):=aa (hg.o.mv (ok':=fun b=>b<w.1.size) ⟨Ix.o.size,fun b hb _=>⟨hb,Ix.o.block b hb⟩⟩);have CD:=DG.o.dl;have aA:=Ix.o.size;generalize Wu:a.dp=dpx at *;generalize Wv:a.dc=dcx at *;clear Wu Wv;go_loopw[13,58] (fun ov i wr=>∃m:Nat,m<=g.Gb.length/\i=.int .i64 m/\Below W8.1.size W8 wr/\∃xs,fH wr W8.1.size ov xs/\xs.length=m/\tK g r xs) (fun _ i _=>g.Gb.length-(intOf i).toNat)
   exact⟨0,cg _,rfl,bj _ _,[],fH.nil _ _,rfl,fun i d x _ h=>by cases h⟩;obtain⟨m,hm,rfl,hB,xs,a9,vh,Uv⟩:=hrel;replace hB:=aa hB;have HOW:=aa a9;clear a9;replace Uv:=aa Uv;have aV:=hB.o.size;by_cases hlt:m<g.Gb.length
   ·obtain⟨d,hd⟩:=aj g.Gb m hlt;obtain⟨b,off,us,qt,gR,cX,ez,eE,ON⟩:=Wt.o.elem hd;obtain⟨tv,rfl,ew⟩:=eE;obtain⟨tp,tc,rfl,_,_⟩:=ew.cap;have cT:wr.1[b]?=W8.1[b]?:=hB.o.block b cX;have aW:=DG.o.dt d (ct hd);have kj:=aa (DG.o.de d (ct hd));have WU:=aa (DG.o.df m d hd);have HD:=aa hd;clear hd;subst qt;obtain⟨q0,q1,q2,q3,q4,q5,q6⟩:=OD cT ON;clear ON ez cT;have hA:=ae wr (.cells (Tai d tp tc) 51);have sX:=aa (b9 wr (.cells (Tai d tp tc) 51));have ak:=hB.o.trans (hA.mono hB.o.size);have J1:=aa ak;have aB:=aa (HOW.o.below hA);have Hx:Hid (ck aF 1 (fun _=>True) (wr.alloc (.cells (Tai d tp tc) 51)) [.slice tp d.tags.length tc] d.tags):=aa ((ck.moves aF.moves).mv ⟨ak.size,fun b hb _=>⟨trivial,ak.block b hb⟩⟩ ew);have Y7:Hid (kF (wr.alloc (.cells (Tai d tp tc) 51)) Bj wr.1.size r np jp nc jc nl jl d tp tc):=aa ⟨⟨(ak.block Bj (aq SI.o)).trans SI.o,sX.o⟩,gI aF.moves WT.o ak,gI aF.moves WS.o ak,Hx.o⟩;have aS:=aa (oD Y7.o ((ak.block Bc (aq Y6.o)).trans Y6.o) Tc1 Tc1 Tc1);have Kp:Hid (nD g r d=iD nl jl r d):=aa (by unfold nD;rw[zr.o,vt.o]);clear hA ak ew Hx Y7 HOW hB;go_upto_region 18 with(fail);clear q0 q1 q2 q3 q4 q5 q6;generalize bb:AI wr _=W9 at *;generalize aZ:wr.1.size=Bd at *;clear bb;go_wp2_with fail;refine aS.o.mono ?_;clear aS;rintro e aJ ⟨rfl,ai⟩;have Ax:=Zbl J1 ai;have ab:=aa (aB.o.below ai);have aP:=Zbk ai sX;have ag:=Ax.o.size;clear ai J1 aB sX;cases Uw:iD nl jl r d with
    |false =>
     have HPN:=aa (zo (Kp.o.trans Uw));clear Uw;go_wp2_with(at_builtin;refine iA rfl _ _ rfl W8.1.size _ xs (.slice none 0 0) [] rfl ?c1 ?c2 aJ.1.size 1 rfl ?c3 ?c4 ?c5 ?_)
     all_goals first|(case c1=>exact ab.o.below (ae _ _))|(case c2=>exact bM.nil _ _)|(case c3=>exact aD rfl rfl)|(case c4=>omega)|(case c5=>simp;omega)|skip
     intro v' aK OR sE _;have C7:=aa ((Ax.o.alloc ag _).trans sE);have a5:=aa OR;clear OR sE;go_wp2;go_roundw;exact⟨m+1,Tc1,Tc5,C7.o,_,a5.o,by simp[vh],Uv.o.snoc Tei HPN.o Tc2 rfl⟩;simp[intOf];omega
    |true =>
     have Qo:=aa (Kp.o.trans Uw);clear Uw;have L3:Hid (jF aJ Bg Br g a r):=aa ⟨(Ax.o.block _ (aq L1.o.g)).trans L1.o.g,(Ax.o.block _ (aq L1.o.r)).trans L1.o.r⟩;have gL:=L3.o.gc;obtain⟨g0,g1,g2,g3,g4,g5,g6,g7,g8⟩:=xr gL;clear gL;have d0:=cr aP.o 0 _ rfl;have ah:dN (fun b=>b<w.1.size) aJ g a:=ux.o.mv ⟨Ax.o.size,fun b hb ho=>⟨ho,Ax.o.block b hb⟩⟩;have SJ:=aa (Di (ok:=fun b=>b<w.1.size) g.name g.id g.seq g.Gd g.next a.tp a.dp a.vp a.hp g.tags.length a.tc a.dc a.vc g.history.length a.hc g.Gb g.F9 d.name aJ ah.Gb Tc1 (fun D hD=>by have:=DG.o.dt D hD;omega) (fun D hD=>by have:=DG.o.de D hD;omega) ah.F9 TeN DG.o.tm (fun p hp=>by have:=DG.o.ps p hp;omega) (by have:=DG.o.pn;omega));clear ah;go_wp2_with fail;clear g0 g1 g2 g3 g4 g5 g6 g7 g8 d0;refine SJ.o.mono ?_;clear SJ;intro e aK hf;unfold zR at hf;rw[WU.o]at hf;obtain⟨fv,x,rfl,SK,aT,SM,hfl,sE⟩:=hf;have CM:=aa (SK.mono (B':=W8.1.size) ag);clear SK;have Uy:Hid (iE x (xy g d)):=aa aT;clear aT;replace SM:=aa SM;have bd:=DG.o.pn;have PK:x.length<=30000:=by omega
     clear hfl bd;have C7:=aa (Ax.o.trans (sE.mono ag));have a5:=aa (ab.o.below sE);have Om:=aa (L3.o.below sE);have SN:=Zbk sE aP;have a8:=C7.o.size;clear sE Ax ab L3 aP;go_upto_region 23 with(fail);have rL:=Om.o.rc;obtain⟨r0,r1,r2,r3,r4,r5,r6⟩:=se rL;clear rL;have HIN:Hid (uM r=(r.Gg==1&&!r.near.toList.isEmpty)):=aa rfl;have key:(r.Gg==1)=false\/((r.Gg==1)=true/\r.near.toList.isEmpty=true)\/((r.Gg==1)=true/\r.near.toList.isEmpty=false):=by
      cases (r.Gg==1)<;>cases r.near.toList.isEmpty<;>simp
     rcases key with h1|⟨h1,h2⟩|⟨h1,h2⟩
     ·rw[h1]at HIN;have aC:=aa (tq Qo.o HIN.o Uy.o);obtain⟨pf,nf,cf,rfl⟩:=CM.o.slice;go_wp2_with(at_builtin;refine iA rfl _ _ rfl W8.1.size _ xs (.slice pf nf cf) x rfl ?c1 ?c2 aK.1.size 1 rfl ?c3 ?c4 ?c5 ?_)
      all_goals first|(case c1=>exact a5.o.below (ae _ _))|(case c2=>exact CM.o.below (ae _ _))|(case c3=>exact aD rfl rfl)|(case c4=>omega)|(case c5=>simp;omega)|skip
      intro v' aQ OR sa _;have au:=aa ((C7.o.alloc a8 _).trans sa);have a7:=aa OR;clear OR sa;go_wp2;go_roundw;exact⟨m+1,Tc1,Tc5,au.o,_,a7.o,by simp[vh],Uv.o.snoc Tei aC.o Tc1 SM.o⟩;simp[intOf];omega
     ·rw[h1,h2]at HIN;have aC:=aa (tq Qo.o HIN.o Uy.o);obtain⟨pf,nf,cf,rfl⟩:=CM.o.slice;go_wp2_with(at_builtin;refine iA rfl _ _ rfl W8.1.size _ xs (.slice pf nf cf) x rfl ?e1 ?e2 aK.1.size 1 rfl ?e3 ?e4 ?e5 ?_)
      all_goals first|(case e1=>exact a5.o.below (ae _ _))|(case e2=>exact CM.o.below (ae _ _))|(case e3=>exact aD rfl rfl)|(case e4=>omega)|(case e5=>simp;omega)|skip
      intro v' aQ OR sa _;have au:=aa ((C7.o.alloc a8 _).trans sa);have a7:=aa OR;clear OR sa;go_wp2;go_roundw;exact⟨m+1,Tc1,Tc5,au.o,_,a7.o,by simp[vh],Uv.o.snoc Tei aC.o Tc1 SM.o⟩;simp[intOf];omega
     rw[h1,h2]at HIN;have gL:=Om.o.gc;obtain⟨g0,g1,g2,g3,g4,g5,g6,g7,g8⟩:=xr gL;clear gL;have d0:=cr SN.o 0 _ rfl;have qu:∀p∈x,0<=p.1/\1<=p.2/\p.1+p.2<=1073741824:=fun p hp=>by
      have c:=Uy.o.1.1 p hp;have c1:=((Uy.o.2 p.1).1 ⟨p,hp,Tc1,Tc1⟩).1;have c2:=((Uy.o.2 (p.1+p.2-1)).1 ⟨p,hp,Tc1,Tc1⟩).1;have:=kj.o;omega
     have PH:Hid ((jE g r.near).length<=10):=aa (by
      refine cA (Bu (m:=6) ?_) Tc1;cases hf:aM g.F9 r.near with
      |none=>intro s hs;simp[eY]at hs
      |some v=>exact fun s hs=>DG.o.a6 v (eV hf) s hs)
     have TM:=aa (yI (ok:=fun b=>b<w.1.size) g a r.near d.name x fv aK ((ux.o.mv (ok':=fun b=>b<w.1.size) ⟨C7.o.size,fun b hb ho=>⟨ho,C7.o.block b hb⟩⟩).F9) DG.o.nd.us.sz DG.o.tm DG.o.st CM.o.rd qu PK PH.o);clear qu;go_wp2_with fail;clear g0 g1 g2 g3 g4 g5 g6 g7 g8 d0 r0 r1 r2 r3 r4 r5 r6;refine TM.o.mono ?_;clear TM;rintro e aQ ⟨yv,y,rfl,SP,WV,hyl,sa⟩;have Y8:=aa (SP.mono (B':=W8.1.size) a8);clear SP;have aC:=aa (yE Qo.o HIN.o Uy.o WV);have be:Hid (dI y=true):=aa (jC WV (xS fun p hp=>by
      have c:=Uy.o.1.1 p hp;have c1:=((Uy.o.2 p.1).1 ⟨p,hp,Tc1,Tc1⟩).1;have c2:=((Uy.o.2 (p.1+p.2-1)).1 ⟨p,hp,Tc1,Tc1⟩).1;have:=kj.o;omega))
     have au:=aa (C7.o.trans (sa.mono a8));have a7:=aa (a5.o.below sa);have aE:=au.o.size;clear sa WV;obtain⟨pf,nf,cf,rfl⟩:=Y8.o.slice;go_wp2_with(at_builtin;refine iA rfl _ _ rfl W8.1.size _ xs (.slice pf nf cf) y rfl ?f1 ?f2 aQ.1.size 1 rfl ?f3 ?f4 ?f5 ?_)
     all_goals first|(case f1=>exact a7.o.below (ae _ _))|(case f2=>exact Y8.o.below (ae _ _))|(case f3=>exact aD rfl rfl)|(case f4=>omega)|(case f5=>simp;omega)|skip
     intro v' bq OR aG _;have WX:=aa ((au.o.alloc aE _).trans aG);replace OR:=aa OR;clear aG;go_wp2;go_roundw;exact⟨m+1,Tc1,Tc5,WX.o,_,OR.o,by simp[vh],Uv.o.snoc Tei aC.o Tc1 be.o⟩;simp[intOf];omega
   obtain rfl:m=g.Gb.length:=by omega
   have B3:=aa (Ix.o.trans (hB.o.mono aA));go_wp2;go_ret2;exact⟨B3.o,.inr ⟨HP.o,_,xs,rfl,HOW.o.mono aA,vh,Uv.o⟩⟩
 have qu:(kP g r != 0)=true:=by simpa using hp
 have HP:=aa hp;clear hp;go_wp2;go_ret2;exact⟨cm.o,.inl ⟨HP.o,rfl⟩⟩
attribute [local go_sem] Oper.semAt_some
def LG:Code->Option Code
 |.rangeFunc g ps a b=>some (.rangeFunc g ps a b)
 |.seq a b=>match LG a with
  |some c=>some c
  |none=>LG b
 |.block _ c=>LG c
 |.loop c=>LG c
 |.scope c=>LG c
 |.cond _ a b=>match LG a with
  |some c=>some c
  |none=>LG b
 |_=>none
end Go.Proofs.YtaagglbgohjldaaGreatDoor
namespace Go.Proofs.YtaagglbgohjldaaGreatDoor
open Go.Proofs.Tryz
open Go.RowKit Go.Shelf
attribute [local go_sem] Oper.semAt_some
end Go.Proofs.YtaagglbgohjldaaGreatDoor
namespace Go.Proofs.YtaagglbgohjldaaGreatDoor
open Go.Proofs.Tryz
open Go.RowKit
variable {w0 w w':World}{bs Bg Bq:Nat}{g:af}{a:bN}{r:aY}{n:Int}{s:ByteArray}
def mO(r:aY):Value:=.agg (Tal r)
def F7(bs:Nat)(w:World)(e:Ending)(w':World):Prop:=∃r:aY,e=.returned (mO r)/\dK r/\Src w' bs/\cR (fun b=>b=bs) w w'
def TaM :Tab #[.int .i64 0,.int .i64 0,.int .i64 0,.int .i64 0,.string ⟨#[]⟩,.string ⟨#[]⟩,.string ⟨#[]⟩]:=⟨⟩
structure kD(w0:World)(bs Bg Bq:Nat)(g:af)(a:bN)(r:aY)(w:World):Prop where
 src:Src w bs
 md:cR (fun b=>b=bs) w0 w
 gb:w.heap[Bg]?=some (.cells (Tad g a) 31 (0,0))
 rb:w.heap[Bg+1]?=some (.cells TaM 34 (0,0))
 qb:w.heap[Bq]?=some (.cells (Tal r) 34 (0,0))
 rq:dK r
def kD.call(h:kD w0 bs Bg Bq g a r w)(hs:Src w' bs)(hm:cR (fun i=>i=bs) w w')(hg:Bg≠bs)(hr:Bg+1≠bs)(hq:Bq≠bs):kD w0 bs Bg Bq g a r w' :=
 ⟨hs,h.md.trans hm (fun _ e=>.inl e),(hm.block _ (aq h.gb) hg).trans h.gb,(hm.block _ (aq h.rb) hr).trans h.rb,(hm.block _ (aq h.qb) hq).trans h.qb,h.rq⟩
def kD.below(h:kD w0 bs Bg Bq g a r w)(hb:Below w.1.size w w'):kD w0 bs Bg Bq g a r w' :=
 ⟨h.src.keep fun i hi=>hb.block i (rr hi h.src.lt),h.md.trans (cR.of_below (F:=fun _=>False) hb) (fun _ f=>f.elim),(hb.block _ (aq h.gb)).trans h.gb,(hb.block _ (aq h.rb)).trans h.rb,(hb.block _ (aq h.qb)).trans h.qb,h.rq⟩
def kD.set(h:kD w0 bs Bg Bq g a r w)(r':aY)(j:Nat)(v:Value)(hv:(#[.int .i64 r.Gi,.int .i64 r.Gh,.int .i64 r.Gc,.int .i64 r.Gg,.string r.tag,.string r.near,.string r.sep]:Array Value).setIfInBounds j v=#[.int .i64 r'.Gi,.int .i64 r'.Gh,.int .i64 r'.Gc,.int .i64 r'.Gg,.string r'.tag,.string r'.near,.string r'.sep])(hr:dK r')(hg:Bg≠Bq)(a5:Bg+1≠Bq)(hq:bs<Bq)(h0:w0.1.size<=Bq) :
  kD w0 bs Bg Bq g a r' (w.setCell (Bq,j) v) :=
 ⟨h.src.keep fun i hi=>bw _ _ _ _ (by show i≠Bq;omega),h.md.setCell (.inr h0) _,(bw _ _ _ _ hg).trans h.gb,(bw _ _ _ _ a5).trans h.rb,(block_setCell v h.qb).trans (by rw[hv]),hr⟩
def kD.qc(h:kD w0 bs Bg Bq g a r w)(i:Nat)(z:Value)(hz:[.int .i64 r.Gi,.int .i64 r.Gh,.int .i64 r.Gc,.int .i64 r.Gg,.string r.tag,.string r.near,.string r.sep][i]?=some z):w.cell? (Bq,i)=some z:=by
 simp only[AN,h.qb];simpa using hz
def kD.qf(h:kD w0 bs Bg Bq g a r w)(i:Nat):w.frozen? (Bq,i)=false:=by simp[BT,h.qb]
def dK.setL(h:dK r)(hn:-9223372036854775808<=n/\n<=9223372036854775807):dK { r with Gi:=n }:=⟨hn,h.s,h.e,h.p,h.t,h.n,h.q⟩
def dK.setS(h:dK r)(hn:-9223372036854775808<=n/\n<=9223372036854775807):dK { r with Gh:=n }:=⟨h.l,hn,h.e,h.p,h.t,h.n,h.q⟩
def dK.setE(h:dK r)(hn:-9223372036854775808<=n/\n<=9223372036854775807):dK { r with Gc:=n }:=⟨h.l,h.s,hn,h.p,h.t,h.n,h.q⟩
def dK.setP(h:dK r)(hn:-9223372036854775808<=n/\n<=9223372036854775807):dK { r with Gg:=n }:=⟨h.l,h.s,h.e,hn,h.t,h.n,h.q⟩
def dK.setT(h:dK r)(hn:s.size<=9223372036854775807):dK { r with tag:=s }:=⟨h.l,h.s,h.e,h.p,hn,h.n,h.q⟩
def dK.setN(h:dK r)(hn:s.size<=9223372036854775807):dK { r with near:=s }:=⟨h.l,h.s,h.e,h.p,h.t,hn,h.q⟩
def dK.setQ(h:dK r)(hn:s.size<=9223372036854775807):dK { r with sep:=s }:=⟨h.l,h.s,h.e,h.p,h.t,h.n,hn⟩
def lV(w:World)(l:List Int)(t:TypeId):ig (w.alloc (.cells (l.map (Bm .i64)).toArray t)) w.1.size 0 l:=fun i n hn=>by
 rw[eJ];exact aD rfl (by simp[hn])
def uW(w:World)(l:List ByteArray)(t:TypeId)(ok:Nat->Prop)(gw:ok w.1.size)(hl:l.length<=1000):ck aF 1 ok (w.alloc (.cells (l.map Cd).toArray t)) [.slice (some w.1.size) l.length l.length] l :=
 ⟨_,l.length,rfl,bk _,Tc1,fun _=>⟨w.1.size,0,rfl,Tc2,gw,fun i x hx=>⟨[.string x],rfl,rfl,fun j z hz=>by
  match j,hz with
  |0,hz =>
   obtain rfl:Cd x=z:=by simpa using hz
   exact aD rfl (by simp[hx])⟩⟩⟩
def qj:List ByteArray:=[⟨#[102,97,115,116]⟩,⟨#[115,105,116,101,61,49]⟩,⟨#[99,111,108,100]⟩,⟨#[122,122]⟩]
def qF:List ByteArray:=[⟨#[115,105,116,101,61]⟩,⟨#[102]⟩,⟨#[115]⟩]
def A9:∀s∈qj,s.size<=9223372036854775807:=fun s hs=>by
 simp only[qj,dr,cY,dg]at hs;rcases hs with rfl|rfl|rfl|rfl<;>decide
def AO:∀s∈qF,s.size<=9223372036854775807:=fun s hs=>by
 simp only[qF,dr,cY,dg]at hs;rcases hs with rfl|rfl|rfl<;>decide
def TaP(x0:Int)(x1:Int)(x2:Int)(x3:Int):Tab #[.int .i64 x0,.int .i64 x1,.int .i64 x2,.int .i64 x3,.string ⟨#[]⟩,.string ⟨#[]⟩,.string ⟨#[]⟩]:=⟨⟩
def Tbi{p:Prop}(h:p:=by
 ·have hk:∀(V:World) (o:Nat) (z:Value),cR (fun b=>b=bs) w V->cR (fun b=>b=bs) w (V.setCell ⟨Bg+1,o,none⟩ z):=fun V o z q=>q.setCell (p:=⟨Bg+1,o,none⟩) (.inr (by show w.1.size<=Bg+1;omega)) z
  exact hk _ _ _ (hk _ _ _ (hk _ _ _ (hk _ _ _ (hk _ _ _ (hk _ _ _ (hk _ _ _ HS6.o.md))))))):p:=h
def Tbm{p:Prop}(h:p:=by
 have hk:∀(V:World) (o:Nat) (z:Value),Src V bs->Src (V.setCell ⟨Bg+1,o,none⟩ z) bs:=fun V o z q=>q.keep fun i hi=>bw _ _ _ _ (by show i≠Bg+1;omega)
 exact hk _ _ _ (hk _ _ _ (hk _ _ _ (hk _ _ _ (hk _ _ _ (hk _ _ _ (hk _ _ _ HS6.o.src))))))):p:=h
def TdG{p:Prop}(h:p:=by simp[mO,results,Tryz.results7,go_sem,b0,b1,b2,b3,b4,b5,b6]):p:=h
def Tez{p:Prop}(h:p:=by show ByteArray.size ⟨#[]⟩<=_;decide):p:=h
def wX(g:af)(a:bN)(bs:Nat)(w:World)(hr:ck aN 6 (fun b=>b≠bs) w [.slice a.vp g.F9.length a.vc] g.F9)(mb:g.F9.length<=1000)(XP:∀v∈g.F9,v.name.size<=9223372036854775807)(h:Src w bs) :
  Calls prog 7 #[.pointer (some bs),.agg (Tad g a)] w (F7 bs w):=by
 replace hr:=aa hr;replace XP:=aa XP;have gO:=h.lt;have hA1:=ae w (.cells (Tad g a) 31);have hA2:=ae (w.alloc (.cells (Tad g a) 31)) (.cells TaM 34);have RW:=b9 w (.cells (Tad g a) 31);have kc:=b9 (w.alloc (.cells (Tad g a) 31)) (.cells TaM 34);rw[cW]at kc;have o0:=aa ((hA2.block _ (aq RW)).trans RW);have yi:=aa kc;have sa:=hA1.trans (hA2.mono hA1.size);have Ta:Hid (cR (fun b=>b=bs) w _):=aa (cR.of_below sa);have am:=aa (h.keep fun i hi=>sa.block i Tc1);clear hA1 hA2 RW kc sa;go_enter func7,ntmps7
 go_upto_region 1 with(fail);generalize aW:AI (AI w _) _=W2 at *;generalize aZ:w.1.size=Bg at *;clear aW;go_wp2_with fail;refine(bO bs 1 3 W2 Tc1 Tc1 Tc1 am.o).mono ?_;rintro e w3 ⟨n1,rfl,XG,XH,hs3,aK⟩;go_wp2_with fail;have aM:=aa (lV w3 [1,1,2] 3);have hA3:=ae w3 (.cells ([1,1,2].map (Bm .i64)).toArray 3);have aA:Src w3 bs:=hs3;refine(jD bs w3.1.size 3 [1,1,2] _ Tc4 Tc4 Tc4 Tc4 Tc2 (by have:=aA.lt;omega) aM.o (aA.keep fun i hi=>hA3.block i (rr hi aA.lt))).mono ?_;rintro e w4 ⟨n2,rfl,hn2,aO,aP⟩;have aC:=(aK.trans (cR.of_below (F:=fun _=>False) hA3) (fun _ f=>f.elim)).trans aP (fun _ e=>.inl e);clear aM hA3 aK aP hs3 aA;go_wp2_with fail;refine(bO bs 1 12 w4 Tc1 Tc1 Tc1 aO).mono ?_;rintro e w5 ⟨n3,rfl,XI,XJ,aQ,aR⟩;go_wp2_with fail;refine(bO bs 1 5 w5 Tc1 Tc1 Tc1 aQ).mono ?_;rintro e w6 ⟨n4,rfl,XK,XL,aE,aS⟩;have ah:=(aC.trans aR (fun _ e=>.inl e)).trans aS (fun _ e=>.inl e);have aF:1<=n2/\n2<=2:=by
  simp only[dr,cY,dg]at hn2;omega
 clear aC aR aS aO aQ hn2;have aD:=ae w6 (.cells (TaP n1 n2 n3 n4) 34);have aT:=b9 w6 (.cells (TaP n1 n2 n3 n4) 34);have ye:Bg<W2.1.size:=aq o0.o;have ag:Bg+1<W2.1.size:=aq yi.o;have aG:Hid (kD w bs Bg w6.1.size g a ⟨n1,n2,n3,n4,⟨#[]⟩,⟨#[]⟩,⟨#[]⟩⟩ (w6.alloc (.cells (TaP n1 n2 n3 n4) 34))):=aa
  ⟨(show Src w6 bs from aE).keep fun i hi=>aD.block i (rr hi (show Src w6 bs from aE).lt),(Ta.o.trans ah (fun _ e=>.inl e)).trans (cR.of_below (F:=fun _=>False) aD) (fun _ f=>f.elim),
   (aD.block _ (cC ye ah.size)).trans ((ah.block _ ye Tc1).trans o0.o),(aD.block _ (cC ag ah.size)).trans ((ah.block _ ag Tc1).trans yi.o),aT,
   ⟨Tc8,Tc8,Tc8,Tc8,Tez,Tez,Tez⟩⟩
 have b8:Bg+1<w6.1.size:=cC ag ah.size;clear aD aT aE ah o0 yi Ta am;go_upto_region 2 with(fail);generalize aX:AI w6 _=W7 at *;generalize PF:w6.1.size=Bq at *;clear aX PF XG XH aF XI XJ XK XL ye ag;have av:Bg≠Bq:=by omega
 have aw:Bg+1≠Bq:=by omega
 have ay:bs<Bq:=by omega
 have az:w.1.size<=Bq:=by omega
 have ye:Bg≠bs:=by omega
 have ag:Bg+1≠bs:=by omega
 have ao:Bq≠bs:=by omega
 go_wp2_with fail;refine(bY bs 2 W7 Tc1 Tc1 aG.o.src).mono ?_;rintro e w8 ⟨n,rfl,_,_,ab,a9⟩;have a5:=aa (aG.o.call ab a9 ye ag ao);clear ab a9 aG;go_upto_if 18 with(fail)
 go_cut[5] (fun v wc=>v=.pointer (some Bq)/\∃r,kD w bs Bg Bq g a r wc)
 case first =>
  have qL:=a5.o.qc;obtain⟨q0,q1,q2,q3,q4,q5,q6⟩:=se qL;have qf:=a5.o.qf;clear qL;by_cases hn:n=0
  ·subst hn;go_wp2;go_meet;exact⟨rfl,_,((a5.o.set ⟨1,n2,n3,n4,⟨#[]⟩,⟨#[]⟩,⟨#[]⟩⟩ 0 (.int .i64 1) rfl (a5.o.rq.setL Tc1) av aw ay az).set ⟨1,1,n3,n4,⟨#[]⟩,⟨#[]⟩,⟨#[]⟩⟩ 1 (.int .i64 1) rfl ((a5.o.rq.setL Tc1).setS Tc1) av aw ay az)⟩
  go_wp2;go_meet;exact⟨rfl,_,a5.o⟩
 case rest =>
  obtain⟨rfl,r1,hst⟩:=hcut;have HS:=aa hst;clear hst a5;go_upto_region 4 with(fail);go_cut[39] (fun v wx=>∃c:Bool,v=.bool c/\(c=true->0<g.F9.length)/\kD w bs Bg Bq g a r1 wx)
  case first =>
   have g7:=cr HS.o.gb 7 _ rfl;by_cases h0:0<g.F9.length
   ·go_wp2_with fail;refine(bY bs 2 wc Tc1 Tc1 HS.o.src).mono ?_;rintro e w8 ⟨n,rfl,_,_,ab,a9⟩;have a5:=aa (HS.o.call ab a9 ye ag ao);clear ab a9 g7;have q3:=a5.o.qc 3 _ rfl;by_cases hn:n=0
    ·subst hn;go_wp2;go_meet;exact⟨_,rfl,fun _=>h0,a5.o⟩
    have sy:(n==0)=false:=by simpa using hn
    cases h2:(r1.Gg==2)with
    |true =>
     go_wp2;go_meet;exact⟨_,rfl,fun _=>h0,a5.o⟩
    |false =>
     go_wp2;go_meet;exact⟨_,rfl,fun _=>h0,a5.o⟩
   go_wp2;go_meet;exact⟨false,rfl,fun h=>(by cases h),HS.o⟩
  case rest =>
   obtain⟨c,rfl,hc0,hst⟩:=hcut;have am:=aa hst;clear hst HS;go_upto_if 39 with(fail)
   go_cut[5] (fun v wx=>v=.pointer (some Bq)/\∃r,kD w bs Bg Bq g a r wx)
   case first =>
    cases c with
    |false =>
     go_wp2;go_meet;exact⟨rfl,_,am.o⟩
    |true =>
     have hv0:=hc0 rfl;go_upto_region 5 with(fail);have UL:Hid (∀w':World,w'.1[Bg]?=wc.1[Bg]?->w'.cell? (Tac Bg 7)=some (.slice a.vp g.F9.length a.vc)):=aa fun w' e=>by
      have:=e.trans am.o.gb;simp[AN,this]
     refine aL (fun w'=>w'.cell? (Tac Bg 7)=some (.slice a.vp g.F9.length a.vc)) 7 [] Tc3 (UL.o _ rfl) (fun a8=>?_);refine fS 0 a8 ?_;refine fS 1 a8 ?_;refine fS 2 a8 ?_;refine fS 3 a8 ?_;refine fS 4 a8 ?_;refine fS 5 a8 ?_;refine lR 6 fun K hK=>?_;go_simp;refine(bY bs (g.F9.length:Int) wc.drew Tc1 Tc1 (am.o.src.keep fun _ _=>rfl)).mono ?_;rintro e w8 ⟨n,rfl,hn1,hn2,ab,a9⟩;have aB:cR (fun i=>i=bs) wc w8:=⟨a9.os,a9.tape,a9.output,a9.size,a9.block⟩;have a5:=aa (am.o.call ab aB ye ag ao);have Zo:=aa aB;refine hK.o _ _ (UL.o _ ((a5.o.gb).trans am.o.gb.symm)) ?_;clear hK K a8 ab a9 aB;obtain⟨k,rfl⟩:=D4 hn1;obtain⟨v,hv⟩:=aj g.F9 k Tc1;have aU:ck aN 6 (fun b=>b≠bs) w8 [.slice a.vp g.F9.length a.vc] g.F9:=(ck.moves aN.moves).mv ⟨(am.o.md.trans Zo.o (fun _ e=>.inl e)).size,fun b hb ho=>⟨ho,(am.o.md.trans Zo.o (fun _ e=>.inl e)).block b hb ho⟩⟩ hr.o;obtain⟨b,off,us,qt,gR,cX,ez,eE,ON⟩:=aU.elem hv;obtain⟨tv,sv,rfl,_,_⟩:=eE;have v0:=ON 0 _ rfl;rw[fg]at v0;have aY:=XP.o v (ct hv);have Vk:k<g.F9.length:=by omega
     rw[qt];have qL:=a5.o.qc;have q5:=qL 5 _ rfl;have qf:=a5.o.qf;clear qL hv ON ez aU;have QY:=aa (a5.o.set { r1 with near:=v.name } 5 (.string v.name) rfl (a5.o.rq.setN aY) av aw ay az);have g7:=UL.o w8 ((a5.o.gb).trans am.o.gb.symm);have aV:=UL.o (w8.setCell (Tac Bq 5) (.string v.name)) ((QY.o.gb).trans am.o.gb.symm);rw[qt]at g7 aV;refine lR 7 fun K hK=>?_;go_simp;refine hK.o _ _ g7 ?_;clear hK K;refine lR 8 fun K hK=>?_;go_simp;refine hK.o _ _ g7 ?_;clear hK K;refine lR 9 fun K hK=>?_;go_simp;refine hK.o _ _ g7 ?_;clear hK K;refine lR 10 fun K hK=>?_;go_simp;refine hK.o _ _ g7 ?_;clear hK K;refine lR 11 fun K hK=>?_;go_simp;refine hK.o _ _ aV ?_;clear hK K;refine⟨Tc3,?_⟩;rw[<- qt];clear qt;go_wp2;go_meet;exact⟨rfl,_,QY.o⟩
   case rest =>
    obtain⟨rfl,r2,hst⟩:=hcut;have aH:=aa hst;clear hst am hc0;go_wp2_with fail;refine(bY bs 4 _ Tc1 Tc1 aH.o.src).mono ?_;rintro e w8 ⟨n,rfl,_,_,ab,a9⟩;have a5:=aa (aH.o.call ab a9 ye ag ao);clear ab a9;go_upto_if 53 with(fail)
    go_cut[5] (fun v wx=>v=.pointer (some Bq)/\∃r,kD w bs Bg Bq g a r wx)
    case first =>
     by_cases hn:n=0
     ·subst hn;have hA:=ae w8 (.cells (qj.map Cd).toArray 9);have au:=aa (a5.o.below hA);have hne:w8.1.size≠bs:=by have:=a5.o.src.lt;omega
      have HW:=aa (qH bs 4 (some ⟨w8.1.size,0,none⟩) qj _ Tc4 Tc4 (uW w8 qj 9 (fun k=>k≠bs) hne Tc4) au.o.src);clear hA;go_wp2_with fail;refine HW.o.mono ?_;rintro e w9 ⟨s,rfl,aI,ai,ak⟩;have a7:=aa (au.o.call ai ak ye ag ao);clear ai ak;have q4:=a7.o.qc 4 _ rfl;have qf:=a7.o.qf;have mu:=A9 s aI;go_wp2;go_meet;exact⟨rfl,_,a7.o.set { r2 with tag:=s } 4 (.string s) rfl (a7.o.rq.setT mu) av aw ay az⟩
     go_wp2;go_meet;exact⟨rfl,_,a5.o⟩
    case rest =>
     obtain⟨rfl,r3,hst⟩:=hcut;have aJ:=aa hst;clear hst aH a5;go_wp2_with fail;refine(bY bs 3 _ Tc1 Tc1 aJ.o.src).mono ?_;rintro e w8 ⟨n,rfl,_,_,ab,a9⟩;have a5:=aa (aJ.o.call ab a9 ye ag ao);clear ab a9;go_upto_if 60 with(fail)
     go_cut[5] (fun v wx=>v=.pointer (some Bq)/\∃r,kD w bs Bg Bq g a r wx)
     case first =>
      by_cases hn:n=0
      ·subst hn;have hA:=ae w8 (.cells (qF.map Cd).toArray 9);have au:=aa (a5.o.below hA);have hne:w8.1.size≠bs:=by have:=a5.o.src.lt;omega
       have HW:=aa (qH bs 3 (some ⟨w8.1.size,0,none⟩) qF _ Tc4 Tc4 (uW w8 qF 9 (fun k=>k≠bs) hne Tc4) au.o.src);clear hA;go_wp2_with fail;refine HW.o.mono ?_;rintro e w9 ⟨s,rfl,aI,ai,ak⟩;have a7:=aa (au.o.call ai ak ye ag ao);clear ai ak;have q6:=a7.o.qc 6 _ rfl;have qf:=a7.o.qf;have mu:=AO s aI;go_wp2;go_meet;exact⟨rfl,_,a7.o.set { r3 with sep:=s } 6 (.string s) rfl (a7.o.rq.setQ mu) av aw ay az⟩
      go_wp2;go_meet;exact⟨rfl,_,a5.o⟩
     case rest =>
      obtain⟨rfl,r4,hst⟩:=hcut;replace hst:=aa hst;clear aJ a5;go_wp2_with fail;refine(bY bs 20 _ Tc1 Tc1 hst.o.src).mono ?_;rintro e w8 ⟨n,rfl,_,_,ab,a9⟩;have a5:=aa (hst.o.call ab a9 ye ag ao);clear ab a9;have qf:=a5.o.qf;have qL:=a5.o.qc;obtain⟨q0,q1,q2,q3,q4,q5,q6⟩:=se qL;clear qL;by_cases h0:n=0
      ·subst h0;have HC:=aa (lV w8 [0,-1,6,7,1099511627776] 3);have hA:=ae w8 (.cells ([0,-1,6,7,1099511627776].map (Bm .i64)).toArray 3);have au:=aa (a5.o.below hA);have hne:w8.1.size≠bs:=by have:=a5.o.src.lt;omega
       have Tb:=aa (jD bs w8.1.size 5 [0,-1,6,7,1099511627776] _ Tc4 Tc4 Tc4 Tc4 Tc2 hne HC.o au.o.src);clear hA HC qf q0 q1 q2 q3 q4 q5 q6;go_wp2_with fail;refine Tb.o.mono ?_;rintro e w9 ⟨n,rfl,pD,ai,ak⟩;have a7:=aa (au.o.call ai ak ye ag ao);clear ai ak;have q0:=a7.o.qc 0 _ rfl;have qf:=a7.o.qf;have sy:-9223372036854775808<=n/\n<=9223372036854775807:=by
        simp only[dr,cY,dg]at pD;omega
       go_upto_region 21 with(fail);have HS6:=aa (a7.o.set { r4 with Gi:=n } 0 (.int .i64 n) rfl (a7.o.rq.setL sy) av aw ay az);generalize AF _ _ _=wc at *;have qL:=HS6.o.qc;obtain⟨q0,q1,q2,q3,q4,q5,q6⟩:=se qL;clear qL;have sB:=HS6.o.rb;have bL:=cr sB;obtain⟨b0,b1,b2,b3,b4,b5,b6⟩:=se bL;have bf:=sr sB;clear bL sB;go_wp2;refine eC (v:=mO ({ r4 with Gi:=n })) TdG rfl ⟨_,rfl,HS6.o.rq,?_,?_⟩
       ·exact Tbm
       exact Tbi
      by_cases h1:n=1
      ·subst h1;have HC:=aa (lV w8 [0,-1,4096,4097] 3);have hA:=ae w8 (.cells ([0,-1,4096,4097].map (Bm .i64)).toArray 3);have au:=aa (a5.o.below hA);have hne:w8.1.size≠bs:=by have:=a5.o.src.lt;omega
       have Tb:=aa (jD bs w8.1.size 4 [0,-1,4096,4097] _ Tc4 Tc4 Tc4 Tc4 Tc2 hne HC.o au.o.src);clear hA HC qf q0 q1 q2 q3 q4 q5 q6 h0;go_wp2_with fail;refine Tb.o.mono ?_;rintro e w9 ⟨n,rfl,pD,ai,ak⟩;have a7:=aa (au.o.call ai ak ye ag ao);clear ai ak;have q2:=a7.o.qc 2 _ rfl;have qf:=a7.o.qf;have sy:-9223372036854775808<=n/\n<=9223372036854775807:=by
        simp only[dr,cY,dg]at pD;omega
       go_upto_region 21 with(fail);have HS6:=aa (a7.o.set { r4 with Gc:=n } 2 (.int .i64 n) rfl (a7.o.rq.setE sy) av aw ay az);generalize AF _ _ _=wc at *;have qL:=HS6.o.qc;obtain⟨q0,q1,q2,q3,q4,q5,q6⟩:=se qL;clear qL;have sB:=HS6.o.rb;have bL:=cr sB;obtain⟨b0,b1,b2,b3,b4,b5,b6⟩:=se bL;have bf:=sr sB;clear bL sB;go_wp2;refine eC (v:=mO ({ r4 with Gc:=n })) TdG rfl ⟨_,rfl,HS6.o.rq,?_,?_⟩
       ·exact Tbm
       exact Tbi
      by_cases h2:n=2
      ·subst h2;have Tb:=aa (bO bs 0 6 w8 Tc1 Tc1 Tc1 a5.o.src);clear qf q0 q1 q2 q3 q4 q5 q6 h0 h1;go_wp2_with fail;refine Tb.o.mono ?_;rintro e w9 ⟨n,rfl,ba,bb,ai,ak⟩;have a7:=aa (a5.o.call ai ak ye ag ao);clear ai ak;have q3:=a7.o.qc 3 _ rfl;have qf:=a7.o.qf;go_upto_region 21 with(fail);have HS6:=aa (a7.o.set { r4 with Gg:=n } 3 (.int .i64 n) rfl (a7.o.rq.setP Tc1) av aw ay az);generalize AF _ _ _=wc at *;have qL:=HS6.o.qc;obtain⟨q0,q1,q2,q3,q4,q5,q6⟩:=se qL;clear qL;have sB:=HS6.o.rb;have bL:=cr sB;obtain⟨b0,b1,b2,b3,b4,b5,b6⟩:=se bL;have bf:=sr sB;clear bL sB;go_wp2;refine eC (v:=mO ({ r4 with Gg:=n })) TdG rfl ⟨_,rfl,HS6.o.rq,?_,?_⟩
       ·exact Tbm
       exact Tbi
      by_cases h3:n=3
      ·subst h3;clear h0 h1 h2;go_upto_region 21 with(fail);have HS6:=aa (a5.o.set { r4 with near:=⟨#[122,122]⟩ } 5 (.string ⟨#[122,122]⟩) rfl (a5.o.rq.setN Tc4) av aw ay az);generalize AF _ _ _=wc at *;have qL:=HS6.o.qc;obtain⟨q0,q1,q2,q3,q4,q5,q6⟩:=se qL;clear qL;have sB:=HS6.o.rb;have bL:=cr sB;obtain⟨b0,b1,b2,b3,b4,b5,b6⟩:=se bL;have bf:=sr sB;clear bL sB;go_wp2;refine eC (v:=mO ({ r4 with near:=⟨#[122,122]⟩ })) TdG rfl ⟨_,rfl,HS6.o.rq,?_,?_⟩
       ·exact Tbm
       exact Tbi
      by_cases h4:n=4
      ·subst h4;clear h0 h1 h2 h3;go_upto_region 21 with(fail);have HS6:=aa (a5.o.set { r4 with sep:=⟨#[45]⟩ } 6 (.string ⟨#[45]⟩) rfl (a5.o.rq.setQ Tc4) av aw ay az);generalize AF _ _ _=wc at *;have qL:=HS6.o.qc;obtain⟨q0,q1,q2,q3,q4,q5,q6⟩:=se qL;clear qL;have sB:=HS6.o.rb;have bL:=cr sB;obtain⟨b0,b1,b2,b3,b4,b5,b6⟩:=se bL;have bf:=sr sB;clear bL sB;go_wp2;refine eC (v:=mO ({ r4 with sep:=⟨#[45]⟩ })) TdG rfl ⟨_,rfl,HS6.o.rq,?_,?_⟩
       ·exact Tbm
       exact Tbi
      go_upto_region 21 with(fail);have HS6:=a5;generalize w8=wc at *;clear q0 q1 q2 q3 q4 q5 q6;have qL:=HS6.o.qc;obtain⟨q0,q1,q2,q3,q4,q5,q6⟩:=se qL;clear qL;have sB:=HS6.o.rb;have bL:=cr sB;obtain⟨b0,b1,b2,b3,b4,b5,b6⟩:=se bL;have bf:=sr sB;clear bL sB;go_wp2;refine eC (v:=mO r4) TdG rfl ⟨_,rfl,HS6.o.rq,?_,?_⟩
      ·exact Tbm
      exact Tbi
open Go.Maps Go.Shelf
variable {w0 w w':World}{e:Ending}{g:af}{r:aY}{bs Bg Bq i fuel j m:Nat}{a:bN}{P:Program}{md:Region.Mode}{ops:Array Oper}{Q:Exit->Act->World->Prop}{S:World->Prop}{N:Nat->Bool}{listed:Array Bool}{x:ay}{s:aB}{vs:List ay}{c2 c3 c5 c6 c9 TO W0 RE RK SO Se Sf To Wr ZD UP US ab ao fa dj dq eS fs gE ff fi fb gn iS mx qS qe nF o4 oE oR qk oS pe ph pr pt qv rl rm rn sd sh ta zd zp pN pP qa qn qp qq qr qs r7 r8 r9 ra rg rs rt rv rx sl sn ss sx sC sR sT t0 t3 t4 t5 t6 t9 td tg th tj tn ts tL u1 ke lE im ka lP mT mc me te tf ti tr tt tw u0 vf vj vm we wg wv yW ad am yp an ax b7 b8 ba be bn bo bp br bu bv ca cb cc ce ch ci cl cn co cp cu cv o3 o5 ob oc oe oj ol op oq ou oy oY p4 p5 cy cB d8 da db ds du e6 e8 e9 ea eb ec ed ee ef eg ei el em en eo er et f0 f6 f7 f8 f9 fd fn fr g9 ga gd gk gp gs gv gx he hG hH hI hJ hO hP hU hV hX hY hZ i5 i6 i7 i8 i9 ib ie ii ij ik io ip it j0 j1 j2 j3 j4 j5 j6 j9 jj jn js jt jL k5 k6 k7 k8 k9 p6 pa pb pd pi pm pu pv py pA kb kh kp ks kv kw kx kB l3 l4 l5 l6 l7 l8 l9 la lc ld lf lg li ln lp lr lx m0 m1 m2 m3 m4 m5 m6 m7 m8 m9 mf mj mp ms mt my mz mL n5 n6 n7 n8 n9 na nq nr nu nL:Value}
def uX.open2(a5:Below w0.1.size w0 w)(hlt:w0.1.size<w.1.size)(h:uX w0.1.size w e w') :
  ∃(g:af) (a:bN),e=.returned (.agg (Tad g a))/\dN (fun b=>b≠w0.1.size) w' g a/\sU g/\Src w' w0.1.size/\Below w0.1.size w0 w'/\w0.1.size<w'.1.size:=by
 obtain⟨g,t,d,v,h,rfl,⟨t',d',v',h',e',h1,h2,h3,h4⟩,hB,hs,hst,hz,hk⟩:=h;injection e' with _ e';injection e' with _ e';injection e' with _ e';injection e' with _ e';injection e' with _ e';injection e' with e1 e';injection e' with e2 e';injection e' with e3 e';injection e' with e4 _;subst e1;subst e2;subst e3;subst e4;obtain⟨tp,tc,rfl,_⟩:=h1.cap;obtain⟨dp,dc,rfl,_⟩:=h2.cap;obtain⟨vp,vc,rfl,_⟩:=h3.cap;obtain⟨hp,hc,rfl,_⟩:=h4.cap;have hm:Mv (fun b=>w.1.size<=b) (fun b=>b≠w0.1.size) w' w':=⟨bk _,fun b _ hb=>⟨by show b≠_;omega,rfl⟩⟩;refine⟨g,⟨tp,tc,dp,dc,vp,vc,hp,hc⟩,rfl,⟨(ck.moves aF.moves).mv hm h1,(ck.moves aO.moves).mv hm h2,(ck.moves aN.moves).mv hm h3,(ck.moves lF.moves).mv hm h4⟩,hB,hs,⟨hst.os.trans a5.os,hst.tape.trans a5.tape,hst.output.trans a5.output,cA a5.size hz,fun k q=>?_⟩,Tc1⟩;have:=a5.size;exact(hk k Tc1 Tc1).trans (a5.block k q)
def Dk.form(h:Dk g r w e w') :
  ∃v xs,e=.returned (.tuple #[v,.int .i64 (kP g r)])/\fH w' w.1.size v xs/\tK g r xs/\(xs.length=if kP g r=0 then g.Gb.length else 0)/\Below w.1.size w w':=by
 obtain⟨hb,⟨hp,rfl⟩|⟨hp,v,xs,rfl,ho,hl,hx⟩⟩:=h
 ·exact⟨_,[],rfl,fH.nil _ _,fun i d x _ hx=>(by cases hx),by rw[bh hp];rfl,hb⟩
 exact⟨v,xs,by rw[hp],ho,hx,by rw[aw hp];exact hl,hb⟩
def dN.keep(h:dN (fun b=>b≠bs/\b<Bg) w g a)(hm:cR (fun b=>b=bs) w w'):dN (fun b=>b≠bs/\b<Bg) w' g a :=
 h.mv ⟨hm.size,fun b hb ho=>⟨ho,hm.block b hb ho.1⟩⟩
def dN.lt(h:dN (fun b=>b≠bs) w g a):dN (fun b=>b≠bs/\b<w.1.size) w g a:=h.mv ⟨bk _,fun _ hb ho=>⟨⟨ho,hb⟩,rfl⟩⟩
def cR.bl(h:Below w.1.size w w'):cR (fun b=>b=bs) w w':=cR.of_below h
structure iw(w0:World)(Bg Bq:Nat)(g:af)(a:bN)(r:aY)(w:World):Prop where
 src:Src w w0.heap.size
 bl:Below w0.heap.size w0 w
 gr:dN (fun b=>b≠w0.heap.size/\b<Bg) w g a
 gb:w.heap[Bg]?=some (.cells (Tad g a) 31 (0,0))
 qb:w.heap[Bq]?=some (.cells (Tal r) 34 (0,0))
 rq:dK r
 sf:AW w
def iw.below(h:iw w0 Bg Bq g a r w)(hb:Below w.1.size w w'):iw w0 Bg Bq g a r w' :=
 ⟨h.src.keep fun i hi=>hb.block i (rr hi h.src.lt),h.bl.trans (hb.mono h.bl.size),h.gr.keep (cR.bl hb),(hb.block _ (aq h.gb)).trans h.gb,(hb.block _ (aq h.qb)).trans h.qb,h.rq,h.sf.below hb⟩
def iw.gc(h:iw w0 Bg Bq g a r w)(i:Nat)(z:Value)(hz:[.string g.name,.int .u64 g.id,.int .i64 g.seq,.int .i64 g.Gd,.int .i64 g.next,.slice a.tp g.tags.length a.tc,.slice a.dp g.Gb.length a.dc,.slice a.vp g.F9.length a.vc,.slice a.hp g.history.length a.hc][i]?=some z):w.cell? (Bg,i)=some z:=by
 simp only[AN,h.gb];simpa using hz
def iw.qc(h:iw w0 Bg Bq g a r w)(i:Nat)(z:Value)(hz:[.int .i64 r.Gi,.int .i64 r.Gh,.int .i64 r.Gc,.int .i64 r.Gg,.string r.tag,.string r.near,.string r.sep][i]?=some z):w.cell? (Bq,i)=some z:=by
 simp only[AN,h.qb];simpa using hz
def iw.qf(h:iw w0 Bg Bq g a r w)(i:Nat):w.frozen? (Bq,i)=false:=by simp[BT,h.qb]
def iw.set(h:iw w0 Bg Bq g a r w)(r':aY)(j:Nat)(v:Value)(hv:(#[.int .i64 r.Gi,.int .i64 r.Gh,.int .i64 r.Gc,.int .i64 r.Gg,.string r.tag,.string r.near,.string r.sep]:Array Value).setIfInBounds j v=#[.int .i64 r'.Gi,.int .i64 r'.Gh,.int .i64 r'.Gc,.int .i64 r'.Gg,.string r'.tag,.string r'.near,.string r'.sep])(hr:dK r')(hg:Bg<Bq)(hq:w0.1.size<Bq):iw w0 Bg Bq g a r' (w.setCell (Bq,j) v) :=
 ⟨h.src.keep fun i hi=>bw _ _ _ _ (by show i≠Bq;omega),h.bl.setCell (p:=⟨Bq,j,none⟩) (by show w0.1.size<=Bq;omega) v,h.gr.mv ⟨Tdd,fun b hb ho=>⟨ho,bw _ _ _ _ (by show b≠Bq;omega)⟩⟩,(bw _ _ _ _ (by show Bg≠Bq;omega)).trans h.gb,(block_setCell v h.qb).trans (by rw[hv]),hr,
  ⟨by simpa[AF]using h.sf.1,fun i l hl=>by
   rw[cd (w:=w) (bw w ⟨Bq,j,none⟩ v 0 (by show 0≠Bq;omega))];exact h.sf.2 i l hl⟩⟩
def Gr{o:Oper}{a:Act}(hi:ops[i]?=some o)(hw:By o (yielded ops a.tmps)=true)(hr:BE md ops listed=[i])
  (h:∀K:Act->World->Prop,Hid (∀a' w',S w'->bG P md ops Q S N fuel (listed.setIfInBounds i true) a' w'->K a' w')->o.wp P a w K Q):bG P md ops Q S N (fuel+1) listed a w:=by
 refine⟨fun h0=>TdA,fun j hj=>?_⟩;rw[hr]at hj;obtain rfl:j=i:=by simpa using hj
 exact Tcr
def NJ{x:List (Int × Int)}{A:Int->Prop}(hx:iE x A)(h:∀n,¬A n):x=[] :=
 hx.eq (y:=[]) (T:=fun _=>False) ⟨yP,fun n=>⟨fun q=>(jd n q).elim,fun q=>q.elim⟩⟩ fun n=>by
  rw[iff_false];exact h n
def JA{o o':Oper}{a:Act}(hi:ops[i]?=some o)(hw:By o (yielded ops a.tmps)=true)(hj:ops[j]?=some o')(a5:By o' (yielded ops a.tmps)=true)(hr:BE md ops listed=[i,j])
  (h1:∀K:Act->World->Prop,Hid (∀a' w',S w'->bG P md ops Q S N fuel (listed.setIfInBounds i true) a' w'->K a' w')->o.wp P a w K Q)
  (h2:∀K:Act->World->Prop,Hid (∀a' w',S w'->bG P md ops Q S N fuel (listed.setIfInBounds j true) a' w'->K a' w')->o'.wp P a w K Q):bG P md ops Q S N (fuel+1) listed a w:=by
 refine⟨fun h0=>TdA,fun k hk=>?_⟩;rw[hr]at hk;simp only[dr,cY,dg]at hk;rcases hk with rfl|rfl
 ·exact Tco
 unfold wpOp;simp only[hj,a5,ej];exact .inl (h2 _ (aa fun a' w' q1 q2=>⟨fun _=>q1,q2⟩))
def Ie(w:World)(s n:Int):xo (w.alloc (.cells #[s,n] 55)) (.slice (some w.1.size) 1 1) [(s,n)]:=by
 have hN:=b9 w (.cells #[s,n] 55);refine⟨_,1,rfl,bk _,Tc1,fun _=>⟨w.1.size,0,rfl,Tc2,fun i p hp=>?_⟩⟩;cases i with
 |zero =>
  have hp:(s,n)=p:=by simpa using hp
  subst hp;exact⟨mi (l:=[.int .i64 s,.int .i64 n]) hN 0 _ rfl,mi (l:=[.int .i64 s,.int .i64 n]) hN 1 _ rfl⟩
 |succ i=>simp at hp
def KF{s1 n1 s2 n2:Int}{s:List (Int × Int)}(hs:iE s (fun n=>GN 2 (kO [(s1,n1)] n) (kO [(s2,n2)] n)=true))(hd:s2+n2<=s1):s=[] :=
 hs.eq (y:=[]) (T:=fun _=>False) ⟨yP,fun n=>⟨fun q=>(jd n q).elim,fun q=>q.elim⟩⟩ fun n=>by
  have e:GN 2 (kO [(s1,n1)] n) (kO [(s2,n2)] n)=(kO [(s1,n1)] n&&kO [(s2,n2)] n):=rfl;rw[e,eh,iff_false];rintro⟨h1,h2⟩;simp only[kO,List.any_cons,List.any_nil,Bool.or_false,eh,fk]at h1 h2;omega
noncomputable def La(n:Nat):Code:=((Tryz.f83.body.bind (kX n)).getD .skip)
def Ta4{p:Prop}(h:p:=by
 refine hK.o _ _ (HS.o _ hb3) ?_;clear hK K PX;have hsz3:=hb3.size;generalize hW3:World.alloc W2 _=W3 at *;clear hW3;have HCC:=aa (HC.o W3 _ _ hb3 hr1 hr2);refine Gr (i:=24) rfl rfl Tc3 (fun K hK=>?_);go_simp;refine HCC.o.mono ?_;rintro e w4 ⟨p,c,rfl,hb4⟩;have hb5:Below w.1.size w w4:=hb3.trans (hb4.mono hsz3);refine hK.o _ _ (HS.o _ hb5) ?_;clear hK K;have hHeld:=HS.o _ hb5;refine cH hQ 25 hHeld ?_;refine cH hQ 26 hHeld ?_;refine cH hQ 27 hHeld ?_;refine aP Tc3 rfl ?_;simp only[cQ,km,cL];clear hHeld hr1 hr2 hb2 hb3;unfold wpList;exact HK.o w4 _ _ _ _ _ _ _ _ _ _ _ _ _ _ _ _ _ _ _ _ _ _ _ _ _ _ _ hb5):p:=h
def Je(Q:Exit->Act->World->Prop)(c0 c1 c2 c3 c7 c8 c9 c10 TO W0 St Rr RE RK SO Se Sf To Wg aE Wr ZD UP US ab ao fa dj dq eS fs gE ff fi fb gn iS mx qS qe nF o4 oE oR qk oS pe ph pr pt:Value)(w:World)(b off i k nn cap:Nat)(dn:ByteArray)(s1 n1 s2 n2:Int)(hi:i<nn)(hk:k<nn)(hb:b<w.1.size)
  (hc:(w.cell? (b,off+i*4+1)=some (.string dn)/\w.cell? (b,off+i*4+2)=some (.int .i64 s1)/\w.cell? (b,off+i*4+3)=some (.int .i64 n1)/\w.cell? (b,off+k*4+1)=some (.string dn)/\w.cell? (b,off+k*4+2)=some (.int .i64 s2)/\w.cell? (b,off+k*4+3)=some (.int .i64 n2)))
  (Fl:∀(W:World) (v1 v2:Value),Below w.1.size w W->xo W v1 [(s1,n1)]->xo W v2 [(s2,n2)]->Calls prog 11 #[v1,v2,.int .i64 2] W fun e w'=>∃p c,e=.returned (.slice p 0 c)/\Below W.1.size W w')
  (HK:Hid (∀(W':World) (u20 u21 u22 u23 u24 u25 u26 u27 u28 u29 a8 u31 u32 u33 u34 u35 u36 u37 u38 u39 u40 u41 u42 u43 u44 u45 u46:Value),Below w.1.size w W'->Q .normal ⟨#[c0,c1,c2,c3,.slice (some (b,off)) nn cap,.int .i64 (i:Int),.int .i64 (k:Int),c7,c8,c9,c10,TO,W0,St,Rr,RE,RK,SO,Se,Sf,u20,u21,u22,u23,u24,u25,u26,u27,u28,u29,a8,u31,u32,u33,u34,u35,u36,u37,u38,u39,u40,u41,u42,u43,u44,u45,u46,.bool false,oS,pe,ph,pr,pt],[]⟩ W'))
  (hQ:∀c (a:Act) (d:Tmp) (v:Value) w,Q (.panic c) (a.put (some d) v) w->Q (.panic c) a w) :
  (La 8).wp prog Q ⟨#[c0,c1,c2,c3,.slice (some (b,off)) nn cap,.int .i64 (i:Int),.int .i64 (k:Int),c7,c8,c9,c10,TO,W0,St,Rr,RE,RK,SO,Se,Sf,To,Wg,aE,Wr,ZD,UP,US,ab,ao,fa,dj,dq,eS,fs,gE,ff,fi,fb,gn,iS,mx,qS,qe,nF,o4,oE,oR,qk,oS,pe,ph,pr,pt],[]⟩ w:=by
 conv=>arg 2;whnf
 have hS:∀w':World,Below w.1.size w w'->(w'.cell? (b,off+i*4+1)=some (.string dn)/\w'.cell? (b,off+i*4+2)=some (.int .i64 s1)/\w'.cell? (b,off+i*4+3)=some (.int .i64 n1)/\w'.cell? (b,off+k*4+1)=some (.string dn)/\w'.cell? (b,off+k*4+2)=some (.int .i64 s2)/\w'.cell? (b,off+k*4+3)=some (.int .i64 n2)):=fun w' e=>by
  obtain⟨h1,h2,h3,h4,h5,h6⟩:=hc;exact⟨(e.cell (p:=⟨b,off+i*4+1,none⟩) hb).trans h1,(e.cell (p:=⟨b,off+i*4+2,none⟩) hb).trans h2,(e.cell (p:=⟨b,off+i*4+3,none⟩) hb).trans h3,(e.cell (p:=⟨b,off+k*4+1,none⟩) hb).trans h4,(e.cell (p:=⟨b,off+k*4+2,none⟩) hb).trans h5,(e.cell (p:=⟨b,off+k*4+3,none⟩) hb).trans h6⟩
 have HS:=aa hS;clear hS;have HC:=aa Fl;clear Fl hc;refine aL (fun w'=>w'.cell? (b,off+i*4+1)=some (.string dn)/\w'.cell? (b,off+i*4+2)=some (.int .i64 s1)/\w'.cell? (b,off+i*4+3)=some (.int .i64 n1)/\w'.cell? (b,off+k*4+1)=some (.string dn)/\w'.cell? (b,off+k*4+2)=some (.int .i64 s2)/\w'.cell? (b,off+k*4+3)=some (.int .i64 n2)) 28 [] Tc3 (HS.o _ (bj _ _).drew) (fun hHeld=>?_);refine cH hQ 0 hHeld ?_;refine cH hQ 1 hHeld ?_;refine cH hQ 2 hHeld ?_;refine cH hQ 3 hHeld ?_;refine cH hQ 4 hHeld ?_;refine cH hQ 5 hHeld ?_;refine cH hQ 6 hHeld ?_;refine cH hQ 7 hHeld ?_;refine cH hQ 8 hHeld ?_;refine cH hQ 9 hHeld ?_;refine cH hQ 10 hHeld ?_;refine cH hQ 11 hHeld ?_;refine cH hQ 12 hHeld ?_;refine cH hQ 13 hHeld ?_;refine cH hQ 14 hHeld ?_;refine cH hQ 15 hHeld ?_;refine cH hQ 16 hHeld ?_;refine cH hQ 18 hHeld ?_;refine cH hQ 19 hHeld ?_;refine cH hQ 20 hHeld ?_;refine cH hQ 21 hHeld ?_;refine cH hQ 22 hHeld ?_;refine JA (i:=17) (j:=23) rfl rfl rfl rfl Tc3 (fun K hK=>?_) (fun K hK=>?_)
 ·go_simp;have hb2:Below w.1.size w (w.alloc (.cells #[s1,n1] 55)).drew:=(ae w _).drew;have hr1:=(Ie w s1 n1).below (bj _ _).drew;refine hK.o _ _ (HS.o _ hb2) ?_;clear hK K hHeld;have a5:=hb2.size;generalize a7:World.drew _=W2 at *;clear a7;refine Gr (i:=23) rfl rfl Tc3 (fun K hK=>?_);go_simp;have PX:=ae W2 (.cells #[s2,n2] 55);have hb3:Below w.1.size w (W2.alloc (.cells #[s2,n2] 55)):=hb2.trans (PX.mono a5);have hr2:=Ie W2 s2 n2;replace hr1:=hr1.below PX;exact Ta4
 go_simp;have hb2:Below w.1.size w (w.alloc (.cells #[s2,n2] 55)).drew:=(ae w _).drew;have hr2:=(Ie w s2 n2).below (bj _ _).drew;refine hK.o _ _ (HS.o _ hb2) ?_;clear hK K hHeld;have a5:=hb2.size;generalize a7:World.drew _=W2 at *;clear a7;refine Gr (i:=17) rfl rfl Tc3 (fun K hK=>?_);go_simp;have PX:=ae W2 (.cells #[s1,n1] 55);have hb3:Below w.1.size w (W2.alloc (.cells #[s1,n1] 55)):=hb2.trans (PX.mono a5);have hr1:=Ie W2 s1 n1;replace hr2:=hr2.below PX;exact Ta4
def JD{ok:Nat->Prop}(g:af)(a:bN)(w:World)(hg:ck aN 6 ok w [.slice a.vp g.F9.length a.vc] g.F9)(mb:g.F9.length<=1000)(ht:qx g.F9)(ah:(pieces g.F9).length<=100000)
  (a8:∀(i k:Nat) (p q:gy),k<i->(pieces g.F9)[i]?=some p->(pieces g.F9)[k]?=some q->p.disk=q.disk->q.start+q.len<=p.start) (CH:∀p∈pieces g.F9,(0<=p.start/\p.start<=1000000)/\1<=p.len/\p.len<=1000000) :
  Calls prog 83 #[.agg (Tad g a)] w fun e w'=>e=.returned (.tuple #[.string ⟨#[]⟩,false])/\Below w.1.size w w':=by
 replace a8:=aa a8;replace CH:=aa CH;replace ht:=aa ht;have hA1:=ae w (.cells (Tad g a) 31);have RW:=b9 w (.cells (Tad g a) 31);have ak:=aa ((ck.moves aN.moves).mv (Mv.of hA1) hg);replace hA1:=aa hA1;clear hg;go_enter func83,ntmps83
 go_upto_region 1 with(fail);generalize AI w _=W1 at *;generalize hE:w.1.size=Bg at RW ⊢;have gL:=mi RW;obtain⟨g0,g1,g2,g3,g4,g5,g6,g7,g8⟩:=xr gL;clear gL RW hE;go_wp2_with fail;clear g0 g1 g2 g3 g4 g5 g6 g7 g8;refine(Hg g.name g.id g.seq g.Gd g.next a.tp a.dp a.vp a.hp g.tags.length a.tc g.Gb.length a.dc a.vc g.history.length a.hc g.F9 W1 ak.o mb ht.o ah).mono ?_;rintro e w2 ⟨v,rfl,ho,hb2⟩;have HO:Hid (ck Gt 4 (fun _=>True) w2 [v] (pieces g.F9)):=aa (bF.rd Gt.moves ho Tc4 (fun _ _ h=>h.elim) (fun _ _=>trivial));have cm:=Zbl hA1 hb2;clear hb2 ho;generalize am:pieces g.F9=L at *;clear am;obtain⟨pp,pc,rfl,_,_⟩:=HO.o.cap;go_wp2;go_loopw[5] (fun i wr=>∃j:Nat,j<=L.length/\i=.int .i64 j/\Below w2.1.size w2 wr) (fun i _=>L.length-(intOf i).toNat)
 exact⟨0,cg _,rfl,bj _ _⟩;obtain⟨i,hi,rfl,hB⟩:=hrel;replace hB:=aa hB;by_cases hlt:i<L.length
 ·obtain⟨p,hp⟩:=aj L i hlt;have HP:=aa hp;obtain⟨b,off,us,rfl,_,cX,_,eE,ON⟩:=HO.o.elem hp;obtain rfl:us=_:=eE;have a9:=aa ON;have ao:=aa (CH.o p (ct hp));clear ON hp;go_wp2;go_loopw[6] (fun z wi=>∃j:Nat,j<=i/\z=.int .i64 j/\Below w2.1.size w2 wi) (fun z _=>i-(intOf z).toNat)
  exact⟨0,cg _,rfl,hB.o⟩;obtain⟨k,hk,rfl,a7⟩:=hrel;replace a7:=aa a7;by_cases hlt2:k<i
  ·obtain⟨q,hq⟩:=aj L k Tc1;obtain⟨b2,off2,aq,qt,_,C2,_,C3,a5⟩:=HO.o.elem hq;obtain rfl:aq=_:=C3;simp only[Option.some.injEq,Addr.mk.injEq,and_true]at qt;obtain⟨rfl,rfl⟩:=qt;have au:=aa (CH.o q (ct hq));have ab:=aa (a8.o i k p q hlt2 HP.o hq);have cT:=a7.o.block b cX;have hbl:=cC cX a7.o.size;have Vk:k<L.length:=by omega
   have p1:=(cd (a:=⟨b,off+i*4+1,none⟩) cT).trans (a9.o 1 _ rfl);have p2:=(cd (a:=⟨b,off+i*4+2,none⟩) cT).trans (a9.o 2 _ rfl);have p3:=(cd (a:=⟨b,off+i*4+3,none⟩) cT).trans (a9.o 3 _ rfl);have q1:=ai cT (a5 1 _ rfl);have q2:=ai cT (a5 2 _ rfl);have q3:=ai cT (a5 3 _ rfl);clear a5 hq cT;by_cases hd:p.disk=q.disk
   ·have av:=ab.o hd;rw[<- hd]at q1;obtain⟨⟨i1,i2⟩,i3,i4⟩:=ao.o;obtain⟨⟨k1,k2⟩,k3,k4⟩:=au.o;clear hd ab;go_upto_region 8 with(fail);refine Je _ _ _ _ _ _ _ _ _ _ _ _ _ _ _ _ _ _ _ _ _ _ _ _ _ _ _ _ _ _ _ _ _ _ _ _ _ _ _ _ _ _ _ _ _ _ _ _ _ _ _ wr b off i k L.length pc p.disk p.start p.len q.start q.len hlt Vk hbl ⟨p1,p2,p3,q1,q2,q3⟩ (fun W v1 v2 ag hr1 hr2=>?_) (aa ?_) (fun _ _ _ _ _ h=>h)
    ·refine(Gn [(p.start,p.len)] [(q.start,q.len)] 2 (.inr (.inr rfl)) v1 v2 W hr1 hr2 TeO TeO Tc2 Tc2).mono ?_;rintro e aw ⟨v,s,rfl,hos,hs,_,_,hb2⟩;obtain rfl:=KF hs av;obtain⟨p,c,rfl,_⟩:=hos.rd;exact⟨p,c,rfl,hb2⟩
    intro W' u20 u21 u22 u23 u24 u25 u26 u27 u28 u29 ay u31 u32 u33 u34 u35 u36 u37 u38 u39 u40 u41 u42 u43 u44 u45 u46 ag;have cJ:=Zbl a7 ag;clear ag p1 p2 p3 q1 q2 q3;go_wp2;go_roundw;exact⟨k+1,Tc1,Tc5,cJ.o⟩;simp[intOf];omega
   have hne:=jI hd;have C1:Hid (∀n,Below w2.1.size w2 (wr.drewN n)):=aa fun n=>aT a7.o n;clear hd ab
   go_upto_region 8 with(fail);go_quiet (fail);clear p1 p2 p3 q1 q2 q3 hne;exact Tcd
  go_wp2;go_roundw;exact⟨i+1,Tc1,Tc5,a7.o⟩;simp[intOf];omega
 have TF:=Zbl cm hB.o;go_wp2;go_ret2;exact⟨rfl,TF.o⟩
def MK{ok:Nat->Prop}(v:ay)(u:List Value)(w:World)(hv:aN ok w u v)(hz:qD v)(hl:(kY v).length<=1000000) :
  Calls prog 131 #[.agg u.toArray] w (Dx w.1.size w (kY v)):=by
 obtain⟨tv,sv,rfl,ew,fL⟩:=hv;obtain⟨tp,tc,rfl,_,_⟩:=ew.cap;obtain⟨sp,sc,rfl,am,ao⟩:=fL.cap;replace fL:=aa fL;clear ew;have GF:=hz.Gf;replace hz:=aa hz;have au:(je v.Gf).length<=1000000:=hl;clear hl;have HUV:Hid (kY v=je v.Gf):=aa rfl;have HB:=aa (ae w (.cells (Tah v tp tc sp sc) 68));have Wx:=aa (b9 w (.cells (Tah v tp tc sp sc) 68));go_enter func131,ntmps131
 go_upto_region 3 with(fail);generalize R0:AI w _=W1 at *;generalize az:w.1.size=Bv at Wx ⊢;clear R0 az;go_loopw[3,4] (fun l i wr=>∃k:Nat,k<=v.Gf.length/\i=.int .i64 k/\dF wr w.1.size l (je (v.Gf.take k))/\wr.1[Bv]?=some (.cells (Tah v tp tc sp sc) 68 (0,0))/\Below w.1.size w wr) (fun _ i _=>v.Gf.length-(intOf i).toNat)
 exact⟨0,cg _,rfl,dF.nil _ _,Wx.o,HB.o⟩;clear HB Wx;obtain⟨k,hk,rfl,a5,XV,hB⟩:=hrel;have Wx:=aa XV;have x5:=mi XV 5 _ rfl;clear XV;have HOW:=aa a5;clear a5;have HB:=aa hB;clear hB;have mA:=HB.o.size;have aF:(je (v.Gf.take k)).length<=1000000:=cA BX au;by_cases hlt:k<v.Gf.length
 ·obtain⟨s,hs⟩:=aj v.Gf k hlt;obtain⟨b,off,us,rfl,gR,cX,ez,eE,ON⟩:=fL.o.elem hs;have ah:=ct hs;have Tp:=(hz.o.seg s ah).1;obtain⟨av,Oz,rfl,mC,hst⟩:=eE;obtain⟨ap,ac,rfl,_,_⟩:=mC.cap;obtain⟨eN,eR,rfl,_,_⟩:=hst.cap;replace mC:=aa mC;clear hst;have cT:wr.1[b]?=w.1[b]?:=HB.o.block b cX;obtain⟨q0,q1,q2,q3,q4,q5,q6,q7,q8,q9,aA⟩:=ak5 cT ON;have QY:=aa (yT hs);clear hs ah ON ez cT;have lj:=aa (b9 wr (.cells (Tae s ap ac eN eR) 114));have hA:=ae wr (.cells (Tae s ap ac eN eR) 114);have cm:=aa (HB.o.trans (hA.mono mA));have HOW2:=aa (HOW.o.below hA);have ai:=Zbk hA Wx;clear hA;go_upto_region 6 with(fail);clear x5 Wx q0 q1 q2 q3 q4 q5 q6 q7 q8 q9 aA;generalize aB:AI wr _=W2 at *;generalize aG:wr.1.size=Bs at *;clear aB HB HOW;go_upto_region 7 with(fail);go_loopw[3,6] (fun l i wi=>∃j:Nat,j<=s.Ga.length/\i=.int .i64 j/\dF wi w.1.size l (je (v.Gf.take k)++vP (s.Ga.take j))/\wi.1[Bs]?=some (.cells (Tae s ap ac eN eR) 114 (0,0))/\wi.1[Bv]?=some (.cells (Tah v tp tc (some ⟨b,off,none⟩) sc) 68 (0,0))/\Below w.1.size w wi) (fun _ i _=>s.Ga.length-(intOf i).toNat)
  exact⟨0,cg _,rfl,by rw[iv];simpa[vP]using HOW2.o,lj.o,ai.o,cm.o⟩;clear lj cm HOW2 ai;obtain⟨j,hj,rfl,a5,gO,XV,hB⟩:=hrel;have Wx:=aa XV;clear XV;have s3:=mi gO 3 _ rfl;have HOW:=aa a5;clear a5;have HB:=aa hB;clear hB;have lj:=aa gO;clear gO;have ag:=HB.o.size;have mb:=Df (s.Ga.take j);rw[ey]at mb;by_cases hlt2:j<s.Ga.length
  ·obtain⟨x,hx⟩:=aj s.Ga j hlt2;obtain⟨b2,off2,aC,qt,I0,C2,B5,C3,af⟩:=mC.o.elem hx;subst qt;obtain rfl:aC=_:=C3;have AD:wr.1[b2]?=w.1[b2]?:=HB.o.block b2 C2;obtain⟨q0,q1,q2⟩:=Mn AD af;have XU:=aa (BA hx);clear af B5 hx AD;have Pm:=aq lj.o;have P7:Hid (∀n,Below w.1.size w (wr.drewN n)):=aa fun n=>aT HB.o n;cases I2:x.vol with
   |false =>
    rw[I2]at q0 XU;rw[bh Tc2,eM]at XU;have HV:=aa I2;clear I2;go_wp2;go_roundw;exact⟨j+1,Tc1,Tc5,by rw[XU.o];exact HOW.o,lj.o,Wx.o,HB.o⟩;simp[intOf];omega
   |true =>
    rw[I2]at q0 XU;rw[aw rfl]at XU;have HV:=aa I2;clear I2;go_wp2_with(at_builtin;refine dz rfl _ _ rfl w.1.size _ (je (v.Gf.take k)++vP (s.Ga.take j)) x.on rfl ?c1 wr.1.size 1 rfl ?c2 ?c3 ?c4 ?_)
    case c1=>exact HOW.o.alloc _
    case c2=>exact aD rfl rfl
    case c3=>rw[cD];omega
    case c4=>simp;omega
    intro v' w1 OR a9 a8;have hA:=ae wr (.cells #[x.on] 9);have ml:=(hA.block _ Pm).trans lj.o;have Tw:=(hA.block _ (aq Wx.o)).trans Wx.o;have eI:=aa ((HB.o.trans (hA.mono ag)).trans a9);have Tx:=aa ((a8.block Bs (aq ml) (fun e=>(HOW.o.below hA).ne ml Tc4 e.symm)).trans ml);have ab:=aa ((a8.block Bv (aq Tw) (fun e=>(HOW.o.below hA).ne Tw Tc4 e.symm)).trans Tw);have HOW4:=aa OR;clear hA ml Tw a9 a8 OR s3 q0 q1 q2;go_wp2;go_roundw;exact⟨j+1,Tc1,Tc5,by rw[XU.o];exact HOW4.o,Tx.o,ab.o,eI.o⟩;simp[intOf];omega
  obtain rfl:j=s.Ga.length:=by omega
  rw[cI]at HOW mb;generalize Pn:je (v.Gf.take k)++vP s.Ga=AL at *;have Wb:AL.length<=3000000:=by rw[<- Pn,cD];omega
  have Hk:Hid (je (v.Gf.take (k+1))=AL++(if s.log.toList.isEmpty then [] else [s.log])++(if s.pool.toList.isEmpty then [] else [s.pool])):=aa (by rw[QY.o,<- Pn];rfl);clear Pn mb QY;have s6:=cr lj.o 6 _ rfl;have s7:=cr lj.o 7 _ rfl;have Pm:=aq lj.o;cases Fi:s.log.toList.isEmpty with
  |true =>
   rw[Fi,aw rfl,eM]at Hk;cases PY:s.pool.toList.isEmpty with
   |true =>
    rw[PY,aw rfl,eM]at Hk;go_wp2;go_roundw;exact⟨k+1,Tc1,Tc5,by rw[Hk.o];exact HOW.o,Wx.o,HB.o⟩;simp[intOf];omega
   |false =>
    rw[PY,bh Tc2]at Hk;go_wp2_with(at_builtin;refine dz rfl _ _ rfl w.1.size _ AL s.pool rfl ?d1 wr.1.size 1 rfl ?d2 ?d3 ?d4 ?_)
    case d1=>exact HOW.o.alloc _
    case d2=>exact aD rfl rfl
    case d3=>omega
    case d4=>simp;omega
    intro v' w1 OR a9 a8;have hA:=ae wr (.cells #[s.pool] 9);have Tw:=(hA.block _ (aq Wx.o)).trans Wx.o;have ab:=aa ((a8.block Bv (aq Tw) (fun e=>(HOW.o.below hA).ne Tw Tc4 e.symm)).trans Tw);clear hA Tw;have eI:=aa ((HB.o.alloc ag _).trans a9);have HOW4:=aa OR;clear a9 a8 OR;go_wp2;go_roundw;exact⟨k+1,Tc1,Tc5,Tee,ab.o,eI.o⟩;simp[intOf];omega
  |false =>
   rw[Fi,bh Tc2]at Hk;go_wp2_with(at_builtin;refine dz rfl _ _ rfl w.1.size _ AL s.log rfl ?e1 wr.1.size 1 rfl ?e2 ?e3 ?e4 ?_)
   case e1=>exact HOW.o.alloc _
   case e2=>exact aD rfl rfl
   case e3=>omega
   case e4=>simp;omega
   intro v' w1 OR a9 a8;have hA:=ae wr (.cells #[s.log] 9);have ml:=(hA.block _ Pm).trans lj.o;have Tw:=(hA.block _ (aq Wx.o)).trans Wx.o;have ab:=aa ((a8.block Bv (aq Tw) (fun e=>(HOW.o.below hA).ne Tw Tc4 e.symm)).trans Tw);have eI:=aa ((HB.o.trans (hA.mono ag)).trans a9);have Tx:=aa ((a8.block Bs (aq ml) (fun e=>(HOW.o.below hA).ne ml Tc4 e.symm)).trans ml);have HOW4:=aa OR;have Wc:=eI.o.size;clear hA ml Tw a9 a8 OR s6 s7;have s7:=cr Tx.o 7 _ rfl
   cases PY:s.pool.toList.isEmpty with
   |true =>
    rw[PY,aw rfl,eM]at Hk;go_wp2;go_roundw;exact⟨k+1,Tc1,Tc5,Tee,ab.o,eI.o⟩;simp[intOf];omega
   |false =>
    rw[PY,bh Tc2]at Hk;go_wp2_with(at_builtin;refine dz rfl _ _ rfl w.1.size _ (AL++[s.log]) s.pool rfl ?f1 w1.1.size 1 rfl ?f2 ?f3 ?f4 ?_)
    case f1=>exact HOW4.o.alloc _
    case f2=>exact aD rfl rfl
    case f3=>simp;omega
    case f4=>simp;omega
    intro v2 w2 a7 hb2 ak;have hA:=ae w1 (.cells #[s.pool] 9);have Tw:=(hA.block _ (aq ab.o)).trans ab.o;have aE:=aa ((ak.block Bv (aq Tw) (fun e=>(HOW4.o.below hA).ne Tw Tc4 e.symm)).trans Tw);clear hA Tw;have eK:=aa ((eI.o.alloc Wc _).trans hb2);replace a7:=aa a7;clear hb2 ak;go_wp2;go_roundw;exact⟨k+1,Tc1,Tc5,by rw[Hk.o,cV];exact a7.o,aE.o,eK.o⟩;simp[intOf];omega
 exact Tb0
def JJ(h:vs[i]?=some x)(nm:ByteArray):iJ (Ci (vs.take (i+1))) nm=iJ (Ci (vs.take i)) nm+iJ (kY x) nm:=by
 unfold Ci iJ;rw[gq h,List.countP_append]
def JV(h:vs[i]?=some x)(nm:ByteArray):yx nm (vs.take (i+1))=yx nm (vs.take i)+DN nm x.Gf:=by
 unfold yx;rw[take_snoc' vs i x h,gl,List.sum_append];simp
def Ka{l:List ByteArray}{y:ByteArray}(h:l[j]?=some y)(nm:ByteArray):iJ (l.take (j+1)) nm=iJ (l.take j) nm+if y=nm then 1 else 0:=by
 rw[take_snoc' l j y h,sV]
def JI{l:List aB}{y:aB}(h:l[j]?=some y)(nm:ByteArray):DN nm (l.take (j+1))=DN nm (l.take j)+if y.pool=nm then 1 else 0:=by
 rw[take_snoc' l j y h];unfold DN;rw[List.countP_append,List.countP_singleton];simp
def Jq(nm:ByteArray)(l:List aB):DN nm l<=l.length:=List.countP_le_length
def Ky(h:∀v∈vs,(kY v).length<=m)(nm:ByteArray)(i:Nat):iJ (Ci (vs.take i)) nm<=vs.length*m:=by
 refine cA (Ag _ nm) ?_;have:=lY kY m (vs.take i) fun v hv=>h v (tR hv);refine cA this ?_;rw[ey];exact tA _ (Nat.min_le_right _ _)
def JB(nm:ByteArray):∀ {vs:List ay},(∀v∈vs,v.Gf.length<=m)->yx nm vs<=vs.length*m
 |[],_=>by simp[yx]
 |v :: vs,h=>by
  have ih:=JB nm (vs:=vs) fun x hx=>h x (kn _ hx);have h1:=Jq nm v.Gf;have h2:=h v cG;unfold yx at ih ⊢;rw[iu,List.sum_cons,cS,Nat.succ_mul];omega
def Ku(nm:ByteArray)(h:∀v∈vs,v.Gf.length<=m)(i:Nat):yx nm (vs.take i)<=vs.length*m:=by
 refine cA (JB nm fun v hv=>h v (tR hv)) ?_;rw[ey];exact tA _ (Nat.min_le_right _ _)
def Tb1{p:Prop}(h:p:=by
 go_wp2;go_roundw;exact⟨j+1,Tc1,Tc5,by rw[HF.o],C1.o _⟩;simp[intOf];omega):p:=h
def TbW{p:Prop}(h:p:=by
 go_wp2;go_roundw;exact⟨j+1,Tc1,Tc5,by rw[HF.o];go_num,C1.o _⟩;simp[intOf];omega):p:=h
def Kr{ok:Nat->Prop}(g:af)(a:bN)(k:Nat)(v:ay)(w:World)(hg:ck aN 6 ok w [.slice a.vp g.F9.length a.vc] g.F9)(mb:g.F9.length<=1000)(ai:∀v∈g.F9,qD v)(ez:∀v∈g.F9,(kY v).length<=100000)(hd:g.F9[k]?=some v)
  (aB:v.hidden=true->iJ (Ci g.F9) v.name=1) (aC:v.hidden=false->iJ (Ci g.F9) v.name=yx v.name g.F9/\(yx v.name g.F9=0\/eZ v=5)) :
  Calls prog 85 #[.agg (Tad g a),.int .i64 k] w fun e w'=>e=.returned (.bool true)/\Below w.1.size w w':=by
 have aH:=aa aB;have aI:=aa aC;have HG:=aa hg;have ak:=aa ai;have aJ:=aa ez;have nw:Hid (∀i,iJ (Ci (g.F9.take i)) v.name<=100000000):=aa fun i=>cA (Ky ez v.name i) (tA 100000 mb);have Kp:Hid (∀i,yx v.name (g.F9.take i)<=1000000000):=aa fun i=>cA (Ku v.name (fun v hv=>(ai v hv).Gf) i) (tA 1000000 mb);clear aB aC hg ai ez;have Vk:=(AT.1 hd).1
 have Rn:v.Gf.length<=1000000000:=by
  have:=(ak.o v (ct hd)).Gf;omega
 obtain⟨b,off,us,qt,gR,cX,ez,eE,ON⟩:=HG.o.elem hd;have My:=aa eE;obtain⟨tv,sv,rfl,ew,fL⟩:=eE;obtain⟨tp,tc,rfl,_,_⟩:=ew.cap;obtain⟨sp,sc,rfl,_,_⟩:=fL.cap;replace qt:=aa qt;have hA1:=ae w (.cells (Tad g a) 31);have CN:=aa (b9 w (.cells (Tad g a) 31));have cT:=hA1.block b cX;go_enter func85,ntmps85
 go_upto_region 1 with(fail);generalize AI w _=W1 at *;generalize TJ:w.1.size=Bg at CN ⊢;clear TJ;have a5:Below w.1.size w W1:=hA1;obtain⟨q0,q1,q2,q3,q4,q5⟩:=sw6 cT ON;have gX:=mi CN.o 7 _ rfl;rw[qt.o]at gX;have hA2:=ae W1 (.cells (Tah v tp tc sp sc) 68);have sX:=aa (b9 W1 (.cells (Tah v tp tc sp sc) 68));have pH:=Zbk hA2 CN;have cm:=aa (a5.trans (hA2.mono a5.size));clear ON ez cT hd hA1 a5 hA2 ew fL CN qt;go_upto_region 2 with(fail);clear q0 q1 q2 q3 q4 q5 gX;generalize AI W1 _=W2 at *;generalize W1.1.size=Bd at *;go_wp2;go_loopw[6,7,8] (fun n p i wr=>∃j:Nat,j<=g.F9.length/\i=.int .i64 j/\n=.int .i64 (iJ (Ci (g.F9.take j)) v.name:Int)/\p=.int .i64 (yx v.name (g.F9.take j):Int)/\Below W2.1.size W2 wr) (fun _ _ i _=>g.F9.length-(intOf i).toNat)
 exact⟨0,cg _,rfl,rfl,rfl,bj _ _⟩;obtain⟨i,hi,rfl,rfl,rfl,hB⟩:=hrel;replace hB:=aa hB;have fy:=Zbl cm hB.o;have aD:=Zbk hB.o pH;have am:=Zbk hB.o sX;by_cases hlt:i<g.F9.length
 ·obtain⟨x,hx⟩:=aj g.F9 i hlt;have Wd:=ct hx;have hxs:=(ak.o x Wd).Gf;have ba:=aJ.o x Wd;have aK:=aa (ak.o x Wd);have aL:=aa (JJ hx v.name);have aM:=aa (JV hx v.name);have bb:=nw.o i;have hpb:=Kp.o i;obtain⟨b3,off3,bd,a9,_,PV,_,Tr,a7⟩:=HG.o.elem hx;have XR:=aa (aN.moves.mv (Mv.of fy.o) Tr);obtain⟨Ym,sv3,rfl,Fk,O0⟩:=Tr;obtain⟨be,bf,rfl,_,_⟩:=Fk.cap;obtain⟨bg,bi,rfl,_,_⟩:=O0.cap;have Zv:=aa O0;have aO:=aa a7;have aE:=aa a9;have g7:=mi aD.o 7 _ rfl;rw[aE.o]at g7;have Tl:=fy.o.block b3 PV;obtain⟨q0,q1,q2,q3,q4,q5⟩:=sw6 Tl a7;clear a7 hx Tl Fk O0 a9 Wd;generalize aP:iJ (Ci (g.F9.take i)) v.name=N0 at *;generalize aQ:yx v.name (g.F9.take i)=P0 at *;clear aP aQ;go_wp2_with fail;clear q0 q1 q2 q3 q4 q5 g7;refine(MK x _ wr XR.o aK.o Tc1).mono ?_;rintro e w5 ⟨vl,rfl,ho,hb5⟩;have HO:Hid (ck aF 1 (fun _=>True) w5 [vl] (kY x)):=aa (ho.rd fun _ _=>trivial);have eK:=Zbl hB hb5;have VH:=Zbk hb5 am;clear ho hb5;obtain⟨pl,pc,rfl,_,_⟩:=HO.o.cap;generalize aR:kY x=U at *;clear aR;go_wp2;go_loopw[6,10] (fun n z wi=>∃j:Nat,j<=U.length/\z=.int .i64 j/\n=.int .i64 ((N0+iJ (U.take j) v.name:Nat):Int)/\Below w5.1.size w5 wi) (fun _ z _=>U.length-(intOf z).toNat)
  exact⟨0,cg _,rfl,rfl,bj _ _⟩;obtain⟨j,hj,rfl,rfl,a8⟩:=hrel;replace a8:=aa a8;by_cases hlt2:j<U.length
  ·obtain⟨y,hy⟩:=aj U j hlt2;obtain⟨b4,ao,aS,rfl,_,aU,_,aV,ab⟩:=HO.o.elem hy;obtain rfl:aS=_:=aV;have y0:=(a8.o.cell (p:=⟨b4,ao+j*1+0,none⟩) aU).trans (ab 0 _ rfl);rw[fp,fg]at y0;have QY:=aa (Ka hy v.name);have ag:=Ag (U.take j) v.name;rw[ey]at ag;have d0:=mi ((a8.o.block _ (aq VH.o)).trans VH.o) 0 _ rfl;have C1:Hid (∀n,Below w5.1.size w5 (wr.drewN n)):=aa fun n=>aT a8.o n;generalize hM:N0+iJ (U.take j) v.name=M at *;have aW:M<=200000000:=by omega
   have HM:=aa hM;clear ab hy ag hM;by_cases hn:y=v.name
   ·have HF:Hid (N0+iJ (U.take (j+1)) v.name=M+1):=aa (by rw[QY.o,aw hn,<- Nat.add_assoc,HM.o]);rw[hn]at y0;clear hn;go_upto_region 10 with(fail);go_quiet (fail);clear y0 d0;exact TbW
   have HF:Hid (N0+iJ (U.take (j+1)) v.name=M):=aa (by rw[QY.o,bh hn,fg,HM.o]);have hne:=jI hn;clear hn;go_upto_region 10 with(fail);go_quiet (fail);clear y0 d0 hne;exact Tb1
  obtain rfl:j=U.length:=by omega
  rw[cI];rw[<- Nat.add_comm (iJ U v.name)];have Tq:=Zbl eK a8.o;have au:Hid (iJ U v.name+N0=iJ (Ci (g.F9.take (i+1))) v.name):=aa (by rw[aL.o,Nat.add_comm]);generalize iJ U v.name+N0=N1 at *;go_wp2;go_loopw[7,11] (fun p z wj=>∃j:Nat,j<=x.Gf.length/\z=.int .i64 j/\p=.int .i64 ((P0+DN v.name (x.Gf.take j):Nat):Int)/\Below W2.1.size W2 wj) (fun _ z _=>x.Gf.length-(intOf z).toNat)
  exact⟨0,cg _,rfl,rfl,Tq.o⟩;obtain⟨j,hj,rfl,rfl,Y0⟩:=hrel;replace Y0:=aa Y0;have aG:=Zbl cm Y0.o;have g7:=mi ((Y0.o.block _ (aq pH.o)).trans pH.o) 7 _ rfl;rw[aE.o]at g7;have q5:=(cd (a:=⟨b3,off3+i*6+5,none⟩) (aG.o.block b3 PV)).trans (aO.o 5 _ rfl);by_cases hlt3:j<x.Gf.length
  ·obtain⟨y,hy⟩:=aj x.Gf j hlt3;obtain⟨b5,av,bk,rfl,_,aX,_,aY,ah⟩:=Zv.o.elem hy;obtain⟨bl,bm,rfl,aZ,az⟩:=aY;have y7:=(cd (a:=⟨b5,av+j*11+7,none⟩) (aG.o.block b5 aX)).trans (ah 7 _ rfl);have QY:=aa (JI hy v.name);have ag:=Jq v.name (x.Gf.take j);rw[ey]at ag;have d0:=mi ((Y0.o.block _ (aq sX.o)).trans sX.o) 0 _ rfl;have C1:Hid (∀n,Below W2.1.size W2 (wr.drewN n)):=aa fun n=>aT Y0.o n;generalize hM:P0+DN v.name (x.Gf.take j)=M at *;have aW:M<=2000000000:=by omega
   have HM:=aa hM;clear ah hy ag hM aZ az;by_cases hn:y.pool=v.name
   ·have HF:Hid (P0+DN v.name (x.Gf.take (j+1))=M+1):=aa (by rw[QY.o,aw hn,<- Nat.add_assoc,HM.o]);rw[hn]at y7;clear hn;go_upto_region 15 with(fail);go_quiet (fail);clear y7 d0 g7 q5;exact TbW
   have HF:Hid (P0+DN v.name (x.Gf.take (j+1))=M):=aa (by rw[QY.o,bh hn,fg,HM.o]);have hne:=jI hn;clear hn;go_upto_region 15 with(fail);go_quiet (fail);clear y7 d0 g7 q5 hne;exact Tb1
  obtain rfl:j=x.Gf.length:=by omega
  have aA:Hid (P0+DN v.name (x.Gf.take x.Gf.length)=yx v.name (g.F9.take (i+1))):=aa (by rw[aM.o,cI]);rw[aA.o];go_wp2;go_roundw;exact⟨i+1,Tc1,Tc5,by rw[au.o],rfl,Y0.o⟩;simp[intOf];omega
 obtain rfl:i=g.F9.length:=by omega
 have g7:=mi aD.o 7 _ rfl;have dL:=mi am.o;have d2:=dL 2 _ rfl;rw[cI];cases hh:v.hidden with
 |true =>
  rw[aH.o hh];rw[hh]at d2;clear dL;go_wp2;go_ret;exact⟨rfl,fy.o⟩
 |false =>
  obtain⟨e1,e2⟩:=aI.o hh;rw[e1];rw[hh]at d2 My;generalize yx v.name g.F9=P at *;obtain⟨z0,z1,z2,z3,z4,z5⟩:=I6 am.o;have b8:=aa fun q:fo=>aN.moves.mv (Mv.of (fy.o.trans ((dQ wr q).mono fy.o.size))) My.o;replace e2:=aa e2;clear dL e1
  go_upto_region 19 with(fail);clear g7 d2;by_cases hp:P=0
  ·have ep:((P:Int)==0)=true:=beq_iff_eq.2 Tc1;have e0:((P:Int)==(P:Int))=true:=by simp
   clear hp;(refine wp_region_quiet_lit ?_;(repeat(go_big_quiet_step ((fail))));(with_reducible refine fR ?_);intro wq ia;have kq:=dY ia;clear ia)
   have TF:=Zbl fy kq;clear kq z0 z1 z2 z3 z4 z5 ep e0;go_wp2;go_ret;exact⟨rfl,TF.o⟩
  have hk5:=e2.o.resolve_left hp;have ek:(eZ v==5)=true:=by rw[hk5];rfl
  have ep:((P:Int)==0)=false:=beq_eq_false_iff_ne.2 Tc1;have e0:((P:Int)==(P:Int))=true:=by simp
  clear hk5 hp;(refine wp_region_quiet_lit ?_;(repeat(go_big_quiet_step ((go_at_call 84;exact iH (pq _ _ _ (b8.o _) Rn)))));(with_reducible refine fR ?_);intro wq ia;have kq:=dY ia;clear ia)
  have TF:=Zbl fy kq;clear kq z0 z1 z2 z3 z4 z5 ek ep e0;go_wp2;go_ret;exact⟨rfl,TF.o⟩
def Jo(Q:Exit->Act->World->Prop){c0 c4 c7 c8 c10 Wg aE:Value}(w:World)(Bg:Nat)(b off i nv vc:Nat)(v:ay)(tp:Option Addr)(tc:Nat)(b3 off3 j sc:Nat)(s:aB)(ap eN:Option Addr)(ac eR:Nat)
  (az:w.cell? (Tac Bg 7)=some (.slice (some (b,off)) nv vc)/\w.cell? (b,off+i*6)=some (.string v.name)/\w.cell? (b,off+i*6+1)=some (.int .u64 v.id)/\w.cell? (b,off+i*6+2)=some (.bool v.hidden)/\w.cell? (b,off+i*6+3)=some (.bool v.ro)/\w.cell? (b,off+i*6+4)=some (.slice tp v.tags.length tc)/\w.cell? (b,off+i*6+5)=some (.slice (some (b3,off3)) v.Gf.length sc)/\w.cell? (b3,off3+j*11)=some (.int .i64 s.start)/\w.cell? (b3,off3+j*11+1)=some (.int .i64 s.length)/\w.cell? (b3,off3+j*11+2)=some (.int .i64 s.kind)/\w.cell? (b3,off3+j*11+3)=some (.slice ap s.Ga.length ac)/\w.cell? (b3,off3+j*11+4)=some (.int .i64 s.chunk)/\w.cell? (b3,off3+j*11+5)=some (.slice eN s.stale.length eR)/\w.cell? (b3,off3+j*11+6)=some (.string s.log)/\w.cell? (b3,off3+j*11+7)=some (.string s.pool)/\w.cell? (b3,off3+j*11+8)=some (.int .i64 s.device)/\w.cell? (b3,off3+j*11+9)=some (.int .i64 s.mode)/\w.cell? (b3,off3+j*11+10)=some (.int .i64 s.done)) (hlt:∀q,q∈[Bg,b,b3]->q<w.1.size) (hi:i<nv) (hj:j<v.Gf.length)
  (HK:Hid (∀(b1 b2:Nat) (W':World) (u149 u150 u151 u152 u153 u154 u155 u156 u157 u158 u159 u160 u161 u162:Value),Below w.1.size w W'->W'.1[b1]?=some (.cells (Tah v tp tc (some ⟨b3,off3,none⟩) sc) 68 (0,0))->W'.1[b2]?=some (.cells (Tae s ap ac eN eR) 114 (0,0))->Q .normal ⟨#[c0,.pointer (some Bg),c2,c3,c4,c5,c6,c7,c8,c9,c10,TO,W0,.int .i64 (i:Int),.int .i64 (j:Int),.pointer (some b1),.pointer (some b2),SO,Se,Sf,To,Wg,aE,Wr,ZD,UP,US,ab,ao,fa,dj,dq,eS,fs,gE,ff,fi,fb,gn,iS,mx,qS,qe,nF,o4,oE,oR,qk,oS,pe,ph,pr,pt,qv,rl,rm,rn,sd,sh,ta,zd,zp,pN,pP,qa,qn,qp,qq,qr,qs,r7,r8,r9,ra,rg,rs,rt,rv,rx,sl,sn,ss,sx,sC,sR,sT,t0,t3,t4,t5,t6,t9,td,tg,th,tj,tn,ts,tL,u1,ke,lE,im,ka,lP,mT,mc,me,te,tf,ti,tr,tt,tw,u0,vf,vj,vm,we,wg,wv,yW,ad,am,yp,an,ax,b7,b8,ba,be,bn,bo,bp,br,bu,bv,ca,cb,cc,ce,ch,ci,cl,cn,co,cp,cu,cv,u149,u150,u151,u152,u153,u154,u155,u156,u157,u158,u159,u160,u161,u162,cy,cB,d8,da,db,ds,du,e6,e8,e9,ea,eb,ec,ed,ee,ef,eg,ei,el,em,en,eo,er,et,f0,f6,f7,f8,f9,fd,fn,fr,g9,ga,gd,gk,gp,gs,gv,gx,he,hG,hH,hI,hJ,hO,hP,hU,hV,hX,hY,hZ,i5,i6,i7,i8,i9,ib,ie,ii,ij,ik,io,ip,it,j0,j1,j2,j3,j4,j5,j6,j9,jj,jn,js,jt,jL,k5,k6,k7,k8,k9,p6,pa,pb,pd,pi,pm,pu,pv,py,pA,kb,kh,kp,ks,kv,kw,kx,kB,l3,l4,l5,l6,l7,l8,l9,la,lc,ld,lf,lg,li,ln,lp,lr,lx,m0,m1,m2,m3,m4,m5,m6,m7,m8,m9,mf,mj,mp,ms,mt,my,mz,mL,n5,n6,n7,n8,n9,na,nq,nr,nu,nL],[]⟩ W'))
  (hQ:∀c (a:Act) (d:Tmp) (v:Value) w,Q (.panic c) (a.put (some d) v) w->Q (.panic c) a w) :
  (Ai Tryz.f36 35).wp prog Q ⟨#[c0,.pointer (some Bg),c2,c3,c4,c5,c6,c7,c8,c9,c10,TO,W0,.int .i64 (i:Int),.int .i64 (j:Int),RE,RK,SO,Se,Sf,To,Wg,aE,Wr,ZD,UP,US,ab,ao,fa,dj,dq,eS,fs,gE,ff,fi,fb,gn,iS,mx,qS,qe,nF,o4,oE,oR,qk,oS,pe,ph,pr,pt,qv,rl,rm,rn,sd,sh,ta,zd,zp,pN,pP,qa,qn,qp,qq,qr,qs,r7,r8,r9,ra,rg,rs,rt,rv,rx,sl,sn,ss,sx,sC,sR,sT,t0,t3,t4,t5,t6,t9,td,tg,th,tj,tn,ts,tL,u1,ke,lE,im,ka,lP,mT,mc,me,te,tf,ti,tr,tt,tw,u0,vf,vj,vm,we,wg,wv,yW,ad,am,yp,an,ax,b7,b8,ba,be,bn,bo,bp,br,bu,bv,ca,cb,cc,ce,ch,ci,cl,cn,co,cp,cu,cv,o3,o5,ob,oc,oe,oj,ol,op,oq,ou,oy,oY,p4,p5,cy,cB,d8,da,db,ds,du,e6,e8,e9,ea,eb,ec,ed,ee,ef,eg,ei,el,em,en,eo,er,et,f0,f6,f7,f8,f9,fd,fn,fr,g9,ga,gd,gk,gp,gs,gv,gx,he,hG,hH,hI,hJ,hO,hP,hU,hV,hX,hY,hZ,i5,i6,i7,i8,i9,ib,ie,ii,ij,ik,io,ip,it,j0,j1,j2,j3,j4,j5,j6,j9,jj,jn,js,jt,jL,k5,k6,k7,k8,k9,p6,pa,pb,pd,pi,pm,pu,pv,py,pA,kb,kh,kp,ks,kv,kw,kx,kB,l3,l4,l5,l6,l7,l8,l9,la,lc,ld,lf,lg,li,ln,lp,lr,lx,m0,m1,m2,m3,m4,m5,m6,m7,m8,m9,mf,mj,mp,ms,mt,my,mz,mL,n5,n6,n7,n8,n9,na,nq,nr,nu,nL],[]⟩ w:=by
 conv=>arg 2;whnf
 have hS:∀w':World,Below w.1.size w w'->(w'.cell? (Tac Bg 7)=some (.slice (some (b,off)) nv vc)/\w'.cell? (b,off+i*6)=some (.string v.name)/\w'.cell? (b,off+i*6+1)=some (.int .u64 v.id)/\w'.cell? (b,off+i*6+2)=some (.bool v.hidden)/\w'.cell? (b,off+i*6+3)=some (.bool v.ro)/\w'.cell? (b,off+i*6+4)=some (.slice tp v.tags.length tc)/\w'.cell? (b,off+i*6+5)=some (.slice (some (b3,off3)) v.Gf.length sc)/\w'.cell? (b3,off3+j*11)=some (.int .i64 s.start)/\w'.cell? (b3,off3+j*11+1)=some (.int .i64 s.length)/\w'.cell? (b3,off3+j*11+2)=some (.int .i64 s.kind)/\w'.cell? (b3,off3+j*11+3)=some (.slice ap s.Ga.length ac)/\w'.cell? (b3,off3+j*11+4)=some (.int .i64 s.chunk)/\w'.cell? (b3,off3+j*11+5)=some (.slice eN s.stale.length eR)/\w'.cell? (b3,off3+j*11+6)=some (.string s.log)/\w'.cell? (b3,off3+j*11+7)=some (.string s.pool)/\w'.cell? (b3,off3+j*11+8)=some (.int .i64 s.device)/\w'.cell? (b3,off3+j*11+9)=some (.int .i64 s.mode)/\w'.cell? (b3,off3+j*11+10)=some (.int .i64 s.done)):=fun w' e=>by
  obtain⟨h0,h1,h2,h3,h4,h5,h6,h7,h8,h9,aA,aC,aD,aF,aG,aH,aI,aJ⟩:=az;exact⟨(e.cell (p:=⟨Bg,7,none⟩) (hlt _ Tc2)).trans h0,(e.cell (p:=⟨b,off+i*6,none⟩) (hlt _ Tc2)).trans h1,(e.cell (p:=⟨b,off+i*6+1,none⟩) (hlt _ Tc2)).trans h2,(e.cell (p:=⟨b,off+i*6+2,none⟩) (hlt _ Tc2)).trans h3,(e.cell (p:=⟨b,off+i*6+3,none⟩) (hlt _ Tc2)).trans h4,(e.cell (p:=⟨b,off+i*6+4,none⟩) (hlt _ Tc2)).trans h5,(e.cell (p:=⟨b,off+i*6+5,none⟩) (hlt _ Tc2)).trans h6,(e.cell (p:=⟨b3,off3+j*11,none⟩) (hlt _ Tc2)).trans h7,(e.cell (p:=⟨b3,off3+j*11+1,none⟩) (hlt _ Tc2)).trans h8,(e.cell (p:=⟨b3,off3+j*11+2,none⟩) (hlt _ Tc2)).trans h9,(e.cell (p:=⟨b3,off3+j*11+3,none⟩) (hlt _ Tc2)).trans aA,(e.cell (p:=⟨b3,off3+j*11+4,none⟩) (hlt _ Tc2)).trans aC,(e.cell (p:=⟨b3,off3+j*11+5,none⟩) (hlt _ Tc2)).trans aD,(e.cell (p:=⟨b3,off3+j*11+6,none⟩) (hlt _ Tc2)).trans aF,(e.cell (p:=⟨b3,off3+j*11+7,none⟩) (hlt _ Tc2)).trans aG,(e.cell (p:=⟨b3,off3+j*11+8,none⟩) (hlt _ Tc2)).trans aH,(e.cell (p:=⟨b3,off3+j*11+9,none⟩) (hlt _ Tc2)).trans aI,(e.cell (p:=⟨b3,off3+j*11+10,none⟩) (hlt _ Tc2)).trans aJ⟩
 replace hS:=aa hS;clear az hlt;refine aL (fun w'=>w'.cell? (Tac Bg 7)=some (.slice (some (b,off)) nv vc)/\w'.cell? (b,off+i*6)=some (.string v.name)/\w'.cell? (b,off+i*6+1)=some (.int .u64 v.id)/\w'.cell? (b,off+i*6+2)=some (.bool v.hidden)/\w'.cell? (b,off+i*6+3)=some (.bool v.ro)/\w'.cell? (b,off+i*6+4)=some (.slice tp v.tags.length tc)/\w'.cell? (b,off+i*6+5)=some (.slice (some (b3,off3)) v.Gf.length sc)/\w'.cell? (b3,off3+j*11)=some (.int .i64 s.start)/\w'.cell? (b3,off3+j*11+1)=some (.int .i64 s.length)/\w'.cell? (b3,off3+j*11+2)=some (.int .i64 s.kind)/\w'.cell? (b3,off3+j*11+3)=some (.slice ap s.Ga.length ac)/\w'.cell? (b3,off3+j*11+4)=some (.int .i64 s.chunk)/\w'.cell? (b3,off3+j*11+5)=some (.slice eN s.stale.length eR)/\w'.cell? (b3,off3+j*11+6)=some (.string s.log)/\w'.cell? (b3,off3+j*11+7)=some (.string s.pool)/\w'.cell? (b3,off3+j*11+8)=some (.int .i64 s.device)/\w'.cell? (b3,off3+j*11+9)=some (.int .i64 s.mode)/\w'.cell? (b3,off3+j*11+10)=some (.int .i64 s.done)) 18 [] Tc3 (hS.o _ (bj _ _).drew) (fun a5=>?_);refine cH hQ 0 a5 ?_;refine cH hQ 1 a5 ?_;refine cH hQ 2 a5 ?_;refine cH hQ 3 a5 ?_;refine cH hQ 4 a5 ?_;refine cH hQ 5 a5 ?_;refine cH hQ 6 a5 ?_;refine cH hQ 7 a5 ?_;refine cH hQ 8 a5 ?_;refine cH hQ 9 a5 ?_;refine cH hQ 10 a5 ?_;refine cH hQ 11 a5 ?_;refine cH hQ 12 a5 ?_;refine cH hQ 13 a5 ?_;refine mh (i:=14) (j:=15) rfl rfl rfl rfl Tc3 (fun K hK=>?_) (fun K hK=>?_)
 ·go_simp;have hb2:Below w.1.size w (w.alloc (.cells Tak 68)).drew:=(ae w _).drew;have Ts:=b9 w (.cells Tak 68);have Ts:(w.alloc (.cells Tak 68)).drew.1[w.1.size]?=some (.cells Tak 68 (0,0)):=Ts;refine hK.o _ _ (hS.o _ hb2) ?_;clear hK K a5;generalize aj:World.drew _=W2 at *;have af:w.1.size<=w.1.size:=bk _;generalize G2:w.1.size=bA at Ts af ⊢;have hA:w.1.size<=bA:=Nat.le_of_eq G2;clear aj af G2;refine lR 15 fun K hK=>?_;go_simp;have hB:w.1.size<=W2.1.size:=hb2.size;have PX:=ae W2 (.cells Tav 114);have hb3:=hb2.trans (PX.mono hB);have hne:bA≠W2.1.size:=Nat.ne_of_lt (aq Ts);replace Ts:=(PX.block _ (aq Ts)).trans Ts;have a9:=b9 W2 (.cells Tav 114);refine hK.o _ _ (hS.o _ hb3) ?_;clear hK K hb2 PX;generalize ak:AI W2 _=W3 at *;generalize au:W2.1.size=bB at *;clear ak au;obtain⟨zf,z0,z1,z2,z3,z4,z5⟩:=BO Ts;obtain⟨sb,sk,so⟩:=zQ Ts (.string v.name) (.int .u64 v.id) (.bool v.hidden) (.bool v.ro) (.slice tp v.tags.length tc) (.slice (some (b3,off3)) v.Gf.length sc) _ rfl;have eI:=aa (sb _ _ hA hb3);have a7:=aa sk;have ag:=aa ((so bB hne.symm).trans a9);clear sb sk so Ts a9 hb3;refine lR 16 fun K hK=>?_;go_simp;refine hK.o _ _ (hS.o _ eI.o) ?_;clear hK K zf z0 z1 z2 z3 z4 z5;have hn2:=ag.o;have a8:=a7.o;have ah:=eI.o;clear ag a7 eI;generalize av:AF _ _ _=W4 at *;clear av;obtain⟨zf,z0,z1,z2,z3,z4,z5,z6,z7,z8,z9,z10⟩:=J5 hn2;obtain⟨sb,sk,so⟩:=JE hn2 (.int .i64 s.start) (.int .i64 s.length) (.int .i64 s.kind) (.slice ap s.Ga.length ac) (.int .i64 s.chunk) (.slice eN s.stale.length eR) (.string s.log) (.string s.pool) (.int .i64 s.device) (.int .i64 s.mode) (.int .i64 s.done) _ rfl;have eK:=aa (sb _ _ hB ah);have ai:=aa sk;have a7:=aa ((so bA hne).trans a8);clear sb sk so hn2 ah a8;refine lR 17 fun K hK=>?_;go_simp;refine hK.o _ _ (hS.o _ eK.o) ?_;clear hK K zf z0 z1 z2 z3 z4 z5 z6 z7 z8 z9 z10;refine aP Tc3 rfl ?_;simp only[cQ,km,cL];have hb5:=eK.o;have a8:=a7.o;have hk2:=ai.o;clear eK a7 ai;generalize aw:AF _ _ _=W5 at *;clear aw;unfold wpList;exact HK.o bA bB W5 _ _ _ _ _ _ _ _ _ _ _ _ _ _ hb5 a8 hk2
 go_simp;have hb2:Below w.1.size w (w.alloc (.cells Tav 114)).drew:=(ae w _).drew;have Ts:=b9 w (.cells Tav 114);have Ts:(w.alloc (.cells Tav 114)).drew.1[w.1.size]?=some (.cells Tav 114 (0,0)):=Ts;refine hK.o _ _ (hS.o _ hb2) ?_;clear hK K a5;generalize aj:World.drew _=W2 at *;have af:w.1.size<=w.1.size:=bk _;generalize G2:w.1.size=bA at Ts af ⊢;have hA:w.1.size<=bA:=Nat.le_of_eq G2;clear aj af G2;refine lR 14 fun K hK=>?_;go_simp;have hB:w.1.size<=W2.1.size:=hb2.size;have PX:=ae W2 (.cells Tak 68);have hb3:=hb2.trans (PX.mono hB);have hne:bA≠W2.1.size:=Nat.ne_of_lt (aq Ts);replace Ts:=(PX.block _ (aq Ts)).trans Ts;have a9:=b9 W2 (.cells Tak 68);refine hK.o _ _ (hS.o _ hb3) ?_;clear hK K hb2 PX;generalize ak:AI W2 _=W3 at *;generalize au:W2.1.size=bB at *;clear ak au;obtain⟨zf,z0,z1,z2,z3,z4,z5⟩:=BO a9;obtain⟨sb,sk,so⟩:=zQ a9 (.string v.name) (.int .u64 v.id) (.bool v.hidden) (.bool v.ro) (.slice tp v.tags.length tc) (.slice (some (b3,off3)) v.Gf.length sc) _ rfl;have eI:=aa (sb _ _ hB hb3);have a7:=aa sk;have ag:=aa ((so bA hne).trans Ts);clear sb sk so Ts a9 hb3;refine lR 16 fun K hK=>?_;go_simp;refine hK.o _ _ (hS.o _ eI.o) ?_;clear hK K zf z0 z1 z2 z3 z4 z5;have hn2:=ag.o;have a8:=a7.o;have ah:=eI.o;clear ag a7 eI;generalize av:AF _ _ _=W4 at *;clear av;obtain⟨zf,z0,z1,z2,z3,z4,z5,z6,z7,z8,z9,z10⟩:=J5 hn2;obtain⟨sb,sk,so⟩:=JE hn2 (.int .i64 s.start) (.int .i64 s.length) (.int .i64 s.kind) (.slice ap s.Ga.length ac) (.int .i64 s.chunk) (.slice eN s.stale.length eR) (.string s.log) (.string s.pool) (.int .i64 s.device) (.int .i64 s.mode) (.int .i64 s.done) _ rfl;have eK:=aa (sb _ _ hA ah);have ai:=aa sk;have a7:=aa ((so bB hne.symm).trans a8);clear sb sk so hn2 ah a8;refine lR 17 fun K hK=>?_;go_simp;refine hK.o _ _ (hS.o _ eK.o) ?_;clear hK K zf z0 z1 z2 z3 z4 z5 z6 z7 z8 z9 z10;refine aP Tc3 rfl ?_;simp only[cQ,km,cL];have hb5:=eK.o;have a8:=a7.o;have hk2:=ai.o;clear eK a7 ai;generalize aw:AF _ _ _=W5 at *;clear aw;unfold wpList;exact HK.o bB bA W5 _ _ _ _ _ _ _ _ _ _ _ _ _ _ hb5 a8 hk2
def Ju(Q:Exit->Act->World->Prop){c0 c4 c7 c8 c10 St Rr:Value}(w:World)(Bg:Nat)(b off i nv vc:Nat)(v:ay)(tp:Option Addr)(tc:Nat)(sp:Option Addr)(sc j:Nat)(x:ay)(a9 af:Option Addr)(ag ah:Nat)
  (aD:w.cell? (Tac Bg 7)=some (.slice (some (b,off)) nv vc)/\w.cell? (b,off+i*6)=some (.string v.name)/\w.cell? (b,off+i*6+1)=some (.int .u64 v.id)/\w.cell? (b,off+i*6+2)=some (.bool v.hidden)/\w.cell? (b,off+i*6+3)=some (.bool v.ro)/\w.cell? (b,off+i*6+4)=some (.slice tp v.tags.length tc)/\w.cell? (b,off+i*6+5)=some (.slice sp v.Gf.length sc)/\w.cell? (b,off+j*6)=some (.string x.name)/\w.cell? (b,off+j*6+1)=some (.int .u64 x.id)/\w.cell? (b,off+j*6+2)=some (.bool x.hidden)/\w.cell? (b,off+j*6+3)=some (.bool x.ro)/\w.cell? (b,off+j*6+4)=some (.slice a9 x.tags.length ag)/\w.cell? (b,off+j*6+5)=some (.slice af x.Gf.length ah)) (hlt:∀q,q∈[Bg,b]->q<w.1.size) (hi:i<nv) (hj:j<nv)
  (HK:Hid (∀(b1 b2:Nat) (W':World) (u246 u247 u248 u249 u250 u251 u252 u253 u254 u255:Value),Below w.1.size w W'->W'.1[b1]?=some (.cells (Tah v tp tc sp sc) 68 (0,0))->W'.1[b2]?=some (.cells (Tah x a9 ag af ah) 68 (0,0))->Q .normal ⟨#[c0,.pointer (some Bg),c2,c3,c4,c5,c6,c7,c8,c9,c10,TO,W0,St,Rr,RE,RK,SO,Se,Sf,To,.int .i64 (i:Int),.int .i64 (j:Int),.pointer (some b1),.pointer (some b2),UP,US,ab,ao,fa,dj,dq,eS,fs,gE,ff,fi,fb,gn,iS,mx,qS,qe,nF,o4,oE,oR,qk,oS,pe,ph,pr,pt,qv,rl,rm,rn,sd,sh,ta,zd,zp,pN,pP,qa,qn,qp,qq,qr,qs,r7,r8,r9,ra,rg,rs,rt,rv,rx,sl,sn,ss,sx,sC,sR,sT,t0,t3,t4,t5,t6,t9,td,tg,th,tj,tn,ts,tL,u1,ke,lE,im,ka,lP,mT,mc,me,te,tf,ti,tr,tt,tw,u0,vf,vj,vm,we,wg,wv,yW,ad,am,yp,an,ax,b7,b8,ba,be,bn,bo,bp,br,bu,bv,ca,cb,cc,ce,ch,ci,cl,cn,co,cp,cu,cv,o3,o5,ob,oc,oe,oj,ol,op,oq,ou,oy,oY,p4,p5,cy,cB,d8,da,db,ds,du,e6,e8,e9,ea,eb,ec,ed,ee,ef,eg,ei,el,em,en,eo,er,et,f0,f6,f7,f8,f9,fd,fn,fr,g9,ga,gd,gk,gp,gs,gv,gx,he,hG,hH,hI,hJ,hO,hP,hU,hV,hX,hY,hZ,i5,i6,i7,i8,i9,ib,ie,ii,ij,ik,io,ip,it,j0,j1,j2,j3,j4,j5,j6,j9,jj,jn,js,jt,jL,k5,k6,k7,k8,k9,u246,u247,u248,u249,u250,u251,u252,u253,u254,u255,kb,kh,kp,ks,kv,kw,kx,kB,l3,l4,l5,l6,l7,l8,l9,la,lc,ld,lf,lg,li,ln,lp,lr,lx,m0,m1,m2,m3,m4,m5,m6,m7,m8,m9,mf,mj,mp,ms,mt,my,mz,mL,n5,n6,n7,n8,n9,na,nq,nr,nu,nL],[]⟩ W'))
  (hQ:∀c (a:Act) (d:Tmp) (v:Value) w,Q (.panic c) (a.put (some d) v) w->Q (.panic c) a w) :
  (Ai Tryz.f36 61).wp prog Q ⟨#[c0,.pointer (some Bg),c2,c3,c4,c5,c6,c7,c8,c9,c10,TO,W0,St,Rr,RE,RK,SO,Se,Sf,To,.int .i64 (i:Int),.int .i64 (j:Int),Wr,ZD,UP,US,ab,ao,fa,dj,dq,eS,fs,gE,ff,fi,fb,gn,iS,mx,qS,qe,nF,o4,oE,oR,qk,oS,pe,ph,pr,pt,qv,rl,rm,rn,sd,sh,ta,zd,zp,pN,pP,qa,qn,qp,qq,qr,qs,r7,r8,r9,ra,rg,rs,rt,rv,rx,sl,sn,ss,sx,sC,sR,sT,t0,t3,t4,t5,t6,t9,td,tg,th,tj,tn,ts,tL,u1,ke,lE,im,ka,lP,mT,mc,me,te,tf,ti,tr,tt,tw,u0,vf,vj,vm,we,wg,wv,yW,ad,am,yp,an,ax,b7,b8,ba,be,bn,bo,bp,br,bu,bv,ca,cb,cc,ce,ch,ci,cl,cn,co,cp,cu,cv,o3,o5,ob,oc,oe,oj,ol,op,oq,ou,oy,oY,p4,p5,cy,cB,d8,da,db,ds,du,e6,e8,e9,ea,eb,ec,ed,ee,ef,eg,ei,el,em,en,eo,er,et,f0,f6,f7,f8,f9,fd,fn,fr,g9,ga,gd,gk,gp,gs,gv,gx,he,hG,hH,hI,hJ,hO,hP,hU,hV,hX,hY,hZ,i5,i6,i7,i8,i9,ib,ie,ii,ij,ik,io,ip,it,j0,j1,j2,j3,j4,j5,j6,j9,jj,jn,js,jt,jL,k5,k6,k7,k8,k9,p6,pa,pb,pd,pi,pm,pu,pv,py,pA,kb,kh,kp,ks,kv,kw,kx,kB,l3,l4,l5,l6,l7,l8,l9,la,lc,ld,lf,lg,li,ln,lp,lr,lx,m0,m1,m2,m3,m4,m5,m6,m7,m8,m9,mf,mj,mp,ms,mt,my,mz,mL,n5,n6,n7,n8,n9,na,nq,nr,nu,nL],[]⟩ w:=by
 conv=>arg 2;whnf
 have hS:∀w':World,Below w.1.size w w'->(w'.cell? (Tac Bg 7)=some (.slice (some (b,off)) nv vc)/\w'.cell? (b,off+i*6)=some (.string v.name)/\w'.cell? (b,off+i*6+1)=some (.int .u64 v.id)/\w'.cell? (b,off+i*6+2)=some (.bool v.hidden)/\w'.cell? (b,off+i*6+3)=some (.bool v.ro)/\w'.cell? (b,off+i*6+4)=some (.slice tp v.tags.length tc)/\w'.cell? (b,off+i*6+5)=some (.slice sp v.Gf.length sc)/\w'.cell? (b,off+j*6)=some (.string x.name)/\w'.cell? (b,off+j*6+1)=some (.int .u64 x.id)/\w'.cell? (b,off+j*6+2)=some (.bool x.hidden)/\w'.cell? (b,off+j*6+3)=some (.bool x.ro)/\w'.cell? (b,off+j*6+4)=some (.slice a9 x.tags.length ag)/\w'.cell? (b,off+j*6+5)=some (.slice af x.Gf.length ah)):=fun w' e=>by
  obtain⟨h0,h1,h2,h3,h4,h5,h6,h7,h8,h9,aE,aF,aG⟩:=aD;exact⟨(e.cell (p:=⟨Bg,7,none⟩) (hlt _ Tc2)).trans h0,(e.cell (p:=⟨b,off+i*6,none⟩) (hlt _ Tc2)).trans h1,(e.cell (p:=⟨b,off+i*6+1,none⟩) (hlt _ Tc2)).trans h2,(e.cell (p:=⟨b,off+i*6+2,none⟩) (hlt _ Tc2)).trans h3,(e.cell (p:=⟨b,off+i*6+3,none⟩) (hlt _ Tc2)).trans h4,(e.cell (p:=⟨b,off+i*6+4,none⟩) (hlt _ Tc2)).trans h5,(e.cell (p:=⟨b,off+i*6+5,none⟩) (hlt _ Tc2)).trans h6,(e.cell (p:=⟨b,off+j*6,none⟩) (hlt _ Tc2)).trans h7,(e.cell (p:=⟨b,off+j*6+1,none⟩) (hlt _ Tc2)).trans h8,(e.cell (p:=⟨b,off+j*6+2,none⟩) (hlt _ Tc2)).trans h9,(e.cell (p:=⟨b,off+j*6+3,none⟩) (hlt _ Tc2)).trans aE,(e.cell (p:=⟨b,off+j*6+4,none⟩) (hlt _ Tc2)).trans aF,(e.cell (p:=⟨b,off+j*6+5,none⟩) (hlt _ Tc2)).trans aG⟩
 replace hS:=aa hS;clear aD hlt;refine aL (fun w'=>w'.cell? (Tac Bg 7)=some (.slice (some (b,off)) nv vc)/\w'.cell? (b,off+i*6)=some (.string v.name)/\w'.cell? (b,off+i*6+1)=some (.int .u64 v.id)/\w'.cell? (b,off+i*6+2)=some (.bool v.hidden)/\w'.cell? (b,off+i*6+3)=some (.bool v.ro)/\w'.cell? (b,off+i*6+4)=some (.slice tp v.tags.length tc)/\w'.cell? (b,off+i*6+5)=some (.slice sp v.Gf.length sc)/\w'.cell? (b,off+j*6)=some (.string x.name)/\w'.cell? (b,off+j*6+1)=some (.int .u64 x.id)/\w'.cell? (b,off+j*6+2)=some (.bool x.hidden)/\w'.cell? (b,off+j*6+3)=some (.bool x.ro)/\w'.cell? (b,off+j*6+4)=some (.slice a9 x.tags.length ag)/\w'.cell? (b,off+j*6+5)=some (.slice af x.Gf.length ah)) 14 [] Tc3 (hS.o _ (bj _ _).drew) (fun a5=>?_);refine cH hQ 0 a5 ?_;refine cH hQ 1 a5 ?_;refine cH hQ 2 a5 ?_;refine cH hQ 3 a5 ?_;refine cH hQ 4 a5 ?_;refine cH hQ 5 a5 ?_;refine cH hQ 6 a5 ?_;refine cH hQ 7 a5 ?_;refine cH hQ 8 a5 ?_;refine cH hQ 9 a5 ?_;refine mh (i:=10) (j:=11) rfl rfl rfl rfl Tc3 (fun K hK=>?_) (fun K hK=>?_)
 ·go_simp;have hb2:Below w.1.size w (w.alloc (.cells Tak 68)).drew:=(ae w _).drew;have Ts:=b9 w (.cells Tak 68);have Ts:(w.alloc (.cells Tak 68)).drew.1[w.1.size]?=some (.cells Tak 68 (0,0)):=Ts;refine hK.o _ _ (hS.o _ hb2) ?_;clear hK K a5;generalize aw:World.drew _=W2 at *;have aj:w.1.size<=w.1.size:=bk _;generalize G2:w.1.size=bA at Ts aj ⊢;have hA:w.1.size<=bA:=Nat.le_of_eq G2;clear aw aj G2;refine lR 11 fun K hK=>?_;go_simp;have hB:w.1.size<=W2.1.size:=hb2.size;have PX:=ae W2 (.cells Tak 68);have hb3:=hb2.trans (PX.mono hB);have hne:bA≠W2.1.size:=Nat.ne_of_lt (aq Ts);replace Ts:=(PX.block _ (aq Ts)).trans Ts;have ai:=b9 W2 (.cells Tak 68);refine hK.o _ _ (hS.o _ hb3) ?_;clear hK K hb2 PX;generalize az:AI W2 _=W3 at *;generalize aA:W2.1.size=bB at *;clear az aA;obtain⟨zf,z0,z1,z2,z3,z4,z5⟩:=BO Ts;obtain⟨sb,sk,so⟩:=zQ Ts (.string v.name) (.int .u64 v.id) (.bool v.hidden) (.bool v.ro) (.slice tp v.tags.length tc) (.slice sp v.Gf.length sc) _ rfl;have eI:=aa (sb _ _ hA hb3);have a7:=aa sk;have ak:=aa ((so bB hne.symm).trans ai);clear sb sk so Ts ai hb3;refine lR 12 fun K hK=>?_;go_simp;refine hK.o _ _ (hS.o _ eI.o) ?_;clear hK K zf z0 z1 z2 z3 z4 z5;have hn2:=ak.o;have a8:=a7.o;have au:=eI.o;clear ak a7 eI;generalize aB:AF _ _ _=W4 at *;clear aB;obtain⟨zf,z0,z1,z2,z3,z4,z5⟩:=BO hn2;obtain⟨sb,sk,so⟩:=zQ hn2 (.string x.name) (.int .u64 x.id) (.bool x.hidden) (.bool x.ro) (.slice a9 x.tags.length ag) (.slice af x.Gf.length ah) _ rfl;have eK:=aa (sb _ _ hB au);have av:=aa sk;have a7:=aa ((so bA hne).trans a8);clear sb sk so hn2 au a8;refine lR 13 fun K hK=>?_;go_simp;refine hK.o _ _ (hS.o _ eK.o) ?_;clear hK K zf z0 z1 z2 z3 z4 z5;refine aP Tc3 rfl ?_;simp only[cQ,km,cL];have hb5:=eK.o;have a8:=a7.o;have hk2:=av.o;clear eK a7 av;generalize aC:AF _ _ _=W5 at *;clear aC;unfold wpList;exact HK.o bA bB W5 _ _ _ _ _ _ _ _ _ _ hb5 a8 hk2
 go_simp;have hb2:Below w.1.size w (w.alloc (.cells Tak 68)).drew:=(ae w _).drew;have Ts:=b9 w (.cells Tak 68);have Ts:(w.alloc (.cells Tak 68)).drew.1[w.1.size]?=some (.cells Tak 68 (0,0)):=Ts;refine hK.o _ _ (hS.o _ hb2) ?_;clear hK K a5;generalize aw:World.drew _=W2 at *;have aj:w.1.size<=w.1.size:=bk _;generalize G2:w.1.size=bA at Ts aj ⊢;have hA:w.1.size<=bA:=Nat.le_of_eq G2;clear aw aj G2;refine lR 10 fun K hK=>?_;go_simp;have hB:w.1.size<=W2.1.size:=hb2.size;have PX:=ae W2 (.cells Tak 68);have hb3:=hb2.trans (PX.mono hB);have hne:bA≠W2.1.size:=Nat.ne_of_lt (aq Ts);replace Ts:=(PX.block _ (aq Ts)).trans Ts;have ai:=b9 W2 (.cells Tak 68);refine hK.o _ _ (hS.o _ hb3) ?_;clear hK K hb2 PX;generalize az:AI W2 _=W3 at *;generalize aA:W2.1.size=bB at *;clear az aA;obtain⟨zf,z0,z1,z2,z3,z4,z5⟩:=BO ai;obtain⟨sb,sk,so⟩:=zQ ai (.string v.name) (.int .u64 v.id) (.bool v.hidden) (.bool v.ro) (.slice tp v.tags.length tc) (.slice sp v.Gf.length sc) _ rfl;have eI:=aa (sb _ _ hB hb3);have a7:=aa sk;have ak:=aa ((so bA hne).trans Ts);clear sb sk so Ts ai hb3;refine lR 12 fun K hK=>?_;go_simp;refine hK.o _ _ (hS.o _ eI.o) ?_;clear hK K zf z0 z1 z2 z3 z4 z5;have hn2:=ak.o;have a8:=a7.o;have au:=eI.o;clear ak a7 eI;generalize aB:AF _ _ _=W4 at *;clear aB;obtain⟨zf,z0,z1,z2,z3,z4,z5⟩:=BO hn2;obtain⟨sb,sk,so⟩:=zQ hn2 (.string x.name) (.int .u64 x.id) (.bool x.hidden) (.bool x.ro) (.slice a9 x.tags.length ag) (.slice af x.Gf.length ah) _ rfl;have eK:=aa (sb _ _ hA au);have av:=aa sk;have a7:=aa ((so bB hne.symm).trans a8);clear sb sk so hn2 au a8;refine lR 13 fun K hK=>?_;go_simp;refine hK.o _ _ (hS.o _ eK.o) ?_;clear hK K zf z0 z1 z2 z3 z4 z5;refine aP Tc3 rfl ?_;simp only[cQ,km,cL];have hb5:=eK.o;have a8:=a7.o;have hk2:=av.o;clear eK a7 av;generalize aC:AF _ _ _=W5 at *;clear aC;unfold wpList;exact HK.o bB bA W5 _ _ _ _ _ _ _ _ _ _ hb5 a8 hk2
structure K5(g:af):Prop where
 gi:GIn g
 hd:qX g=0
 dk:∀(k:Nat) (d:az),g.Gb[k]?=some d->pg g k d=0
 vo:∀(k:Nat) (v:ay),g.F9[k]?=some v->yH g k v=0
 ex:1<=g.Gd/\g.Gd<=1024
 sg:∀v∈g.F9,∀(k:Nat) (s:aB),v.Gf[k]?=some s->bJ g.Gd s (Cw (v.Gf.take k))=true/\(1<v.Gf.length->(oO s.kind).several=true)
 sz:∀v∈g.F9,∀s∈v.Gf,Ah s
 re:∀v∈g.F9,∀s∈v.Gf,mM g v s=0
 si:∀v∈g.F9,∀s∈v.Gf,CX g s=true
 lb:Cu g
 pf:E9 g
 row:∀(i k:Nat) (p q:gy),k<i->(pieces g.F9)[i]?=some p->(pieces g.F9)[k]?=some q->p.disk=q.disk->q.start+q.len<=p.start
 pos:∀p∈pieces g.F9,(0<=p.start/\p.start<=1000000)/\1<=p.len/\p.len<=1000000
 thin:∀(i k:Nat) (v x:ay) (s t:aB),k<i->g.F9[i]?=some v->g.F9[k]?=some x->v.Gf=[s]->x.Gf=[t]->s.kind=6->t.kind=6->s.pool≠t.pool\/s.device≠t.device
 us:∀v∈g.F9,(v.hidden=true->iJ (Ci g.F9) v.name=1)/\(v.hidden=false->iJ (Ci g.F9) v.name=yx v.name g.F9/\(yx v.name g.F9=0\/eZ v=5))
 ul:∀v∈g.F9,(kY v).length<=100000
 vs:∀v∈g.F9,v.Gf.length<=64
def sU.ckIn(h:sU g):K5 g:=by
 have hm:=h.mchk;have hi:=h.gin;obtain⟨h1,h2,h3,h4,h5,h6,h7,h8⟩:=Dg hm;obtain⟨r1,r2⟩:=iT h1;have mu:=mZ h4;refine⟨hi,h1,fun k d hd=>?_,fun k v hv=>?_,⟨r1.2.2.1,r1.2.2.2.1⟩,fun v hv k s hs=>Kv h4 hv hs,mu,Dh h5,fun v hv s hs=>?_,Cg h3 h4,Fb hi hm,JQ h,JN h,
  fun i k v x s t XQ hv hx hs ht h6 a5=>JY h7 XQ hv hx hs ht h6 a5,fun v hv=>KT hm hv,fun v hv=>?_,fun v hv=>(nH h3 v hv).2.2.2⟩
 ·have:=ll (i:=0) h2 k d hd;rwa[eJ]at this
 ·have:=ll (i:=0) h3 k v hv;rwa[eJ]at this
 ·exact Tbr
 have:=lY rQ 8 v.Gf fun s hs=>cA (Cb s) (by have:=(mu v hv s hs).fm.ar;omega)
 have h64:=(nH h3 v hv).2.2.2;unfold kY;omega
def Kg{ext st:Int}(k:Int)(w:World)(hf:bJ ext s st=true)(h:(oO s.kind).several=true)(hk:k=s.kind:=by rfl) :
  Calls prog 77 #[.int .i64 k] w fun e w'=>e=.returned (.bool true)/\Below w.1.size w w':=by
 subst hk;obtain⟨x,hx,-⟩:=DD hf;refine(JF s.kind x w hx).mono ?_;rintro e w' ⟨rfl,rfl⟩;unfold oO at h;rw[hx]at h;exact⟨by rw[show x.several=true from h],bj _ _⟩
def JH{ext st:Int}(h:bJ ext s st=true):(s.kind=5->s.Ga.length<=2)/\(s.kind=7->s.Ga.length<=3)/\(¬s.kind=3->s.log.toList.isEmpty=true):=by
 obtain⟨x,hx,-,-,⟨-,h2⟩,-,-,hl,-⟩:=DD h;refine⟨fun k=>?_,fun k=>?_,fun k=>?_⟩
 ·rw[k]at hx;injection hx with hx;subst hx;dsimp only at h2;omega
 ·rw[k]at hx;injection hx with hx;subst hx;dsimp only at h2;omega
 have:x.log=false:=by
  rcases pM hx with q|q|q|q|q|q|q|q|q|q
  all_goals first|exact absurd q k|(rw[q]at hx;injection hx with hx;subst hx;rfl)
 rwa[this,nj]at hl
def Tch{p:Prop}(h:p:=by
 go_wp2;go_roundw;exact⟨j+1,Tc1,Tc5,C1.o⟩;simp[intOf];omega):p:=h
def TcU{p:Prop}(h:p:=by
 go_wp2;go_roundw;exact⟨i+1,Tc1,Tc5,Uu.o⟩;simp[intOf];omega):p:=h
def TbZ{p:Prop}(h:p:=by
 ·clear o0 G1;exact TcU):p:=h
def Tbe{p:Prop}(h:p:=by
 have gL:=mi o0.o;obtain⟨g0,g1,g2,g3,g4,g5,g6,g7,g8⟩:=xr gL;clear gL;clear o0 G1 hd;go_wp2_with fail;clear g0 g1 g2 g3 g4 g5 g6 g7 g8;refine HCL.o.mono ?_;clear HCL;rintro e w5 ⟨rfl,hb5⟩;have eK:=Zbl HB hb5;clear hb5;exact TcT):p:=h
def Tbo{p:Prop}(h:p:=by
 have C1:=Zbl Tq kq;have s1:=mi ((kq.block _ (aq aw6.o)).trans aw6.o) 1 _ rfl;clear kq;go_wp2;go_roundw;exact⟨j+1,Tc1,Tc5,by rw[QY.o],C1.o⟩;simp[intOf];omega):p:=h
end Go.Proofs.YtaagglbgohjldaaGreatDoor
